/- Facts of the types of the program. No condition. -/
import Derived.Test.YteplgmnnkdpmeaaGreatDoorGwSt
import Derived.Test.YteplgmnnkdpmeaaGreatDoorGwLib5
import Derived.Laws.StructEq
import Derived.Test.YteplgmnnkdpmeaaGreatDoorProg
set_option linter.unusedVariables false
set_option linter.unusedSimpArgs false
set_option linter.unusedSectionVars false
set_option maxRecDepth 100000
namespace Go.Gw
open Go Go.Proofs
abbrev numgo : String := "runtime.NumGoroutine"
theorem QF:Xx Tryz.prog 3 1:=Yy (by kernel_rfl)
theorem sz5:Xx Tryz.prog 5 1:=Yy (by kernel_rfl)
theorem Y7:Xx Tryz.prog 9 1:=Yy (by kernel_rfl)
theorem Yr:Xx Tryz.prog 22 1:=Yy (by kernel_rfl)
theorem YW:Xx Tryz.prog 23 1:=Yy (by kernel_rfl)
theorem Y5:Xx Tryz.prog 24 1:=Yy (by kernel_rfl)
theorem Zf:Xx Tryz.prog 26 4:=Yy (by kernel_rfl)
theorem Q9:Xx Tryz.prog 27 1:=Yy (by kernel_rfl)
theorem XU:Xx Tryz.prog 28 1:=Yy (by kernel_rfl)
theorem Xy:Xx Tryz.prog 30 3:=Yy (by kernel_rfl)
theorem Jv:Xx Tryz.prog 32 3:=Yy (by kernel_rfl)
theorem QWc:Xx Tryz.prog 38 1:=Yy (by kernel_rfl)
theorem Yw:Xx Tryz.prog 44 2:=Yy (by kernel_rfl)
theorem Zz:Xx Tryz.prog 60 5:=Yy (by kernel_rfl)
theorem ZT:Xx Tryz.prog 78 2:=Yy (by kernel_rfl)
theorem Zg:Xx Tryz.prog 80 3:=Yy (by kernel_rfl)
theorem QDb:Xx Tryz.prog 83 1:=Yy (by kernel_rfl)
theorem YS:Xx Tryz.prog 93 2:=Yy (by kernel_rfl)
theorem QDc:Xx Tryz.prog 99 1:=Yy (by kernel_rfl)
theorem QCz:Xx Tryz.prog 102 4:=Yy (by kernel_rfl)
theorem Qdj:Xx Tryz.prog 112 2:=Yy (by kernel_rfl)
theorem Qjr:Xx Tryz.prog 123 1:=Yy (by kernel_rfl)
theorem Qcj:Xx Tryz.prog 124 1:=Yy (by kernel_rfl)
theorem QDa:Xx Tryz.prog 152 1:=Yy (by kernel_rfl)
theorem QWa:Xx Tryz.prog 162 1:=Yy (by kernel_rfl)
theorem QWb:Xx Tryz.prog 165 1:=Yy (by kernel_rfl)
theorem Qjs:Xx Tryz.prog 185 1:=Yy (by kernel_rfl)
theorem QN:Y6 Tryz.prog 3:=⟨_,Tryz.underlying3,trivial⟩
theorem sc5:Y6 Tryz.prog 5:=⟨_,Tryz.underlying5,trivial⟩
theorem Zu:Y6 Tryz.prog 9:=⟨_,Tryz.underlying9,trivial⟩
theorem Yq:Y6 Tryz.prog 22:=⟨_,Tryz.underlying22,trivial⟩
theorem YU:Y6 Tryz.prog 23:=⟨_,Tryz.underlying23,trivial⟩
theorem Ze:Y6 Tryz.prog 24:=⟨_,Tryz.underlying24,trivial⟩
theorem Xe:Y6 Tryz.prog 27:=⟨_,Tryz.underlying27,trivial⟩
theorem Yh:Y6 Tryz.prog 28:=⟨_,Tryz.underlying28,trivial⟩
theorem QUb:Y6 Tryz.prog 38:=⟨_,Tryz.underlying38,trivial⟩
theorem Qjd:Y6 Tryz.prog 83:=⟨_,Tryz.underlying83,trivial⟩
theorem Qje:Y6 Tryz.prog 99:=⟨_,Tryz.underlying99,trivial⟩
theorem Qjb:Y6 Tryz.prog 123:=⟨_,Tryz.underlying123,trivial⟩
theorem Qjc:Y6 Tryz.prog 124:=⟨_,Tryz.underlying124,trivial⟩
theorem QCb:Y6 Tryz.prog 152:=⟨_,Tryz.underlying152,trivial⟩
theorem QTz:Y6 Tryz.prog 162:=⟨_,Tryz.underlying162,trivial⟩
theorem QUa:Y6 Tryz.prog 165:=⟨_,Tryz.underlying165,trivial⟩
theorem Qoj:Y6 Tryz.prog 185:=⟨_,Tryz.underlying185,trivial⟩
theorem Ye:Aggr Tryz.prog 26 4:=Qau (by trivial) Tryz.underlying26 (by kernel_rfl)
theorem Xn:Aggr Tryz.prog 30 3:=Qau (by trivial) Tryz.underlying30 (by kernel_rfl)
theorem ZC:Aggr Tryz.prog 32 3:=Qau (by trivial) Tryz.underlying32 (by kernel_rfl)
theorem Qbx:Aggr Tryz.prog 44 2:=Qau (by trivial) Tryz.underlying44 (by kernel_rfl)
theorem Zb:Aggr Tryz.prog 60 5:=Qau (by trivial) Tryz.underlying60 (by kernel_rfl)
theorem Qhd:Aggr Tryz.prog 61 15:=Qau (by trivial) Tryz.underlying61 (by kernel_rfl)
theorem Qfc:Aggr Tryz.prog 78 2:=Qau (by trivial) Tryz.underlying78 (by kernel_rfl)
theorem JY:Aggr Tryz.prog 80 3:=Qau (by trivial) Tryz.underlying80 (by kernel_rfl)
theorem YQ:Aggr Tryz.prog 93 2:=Qau (by trivial) Tryz.underlying93 (by kernel_rfl)
theorem QFc:Aggr Tryz.prog 102 4:=Qau (by trivial) Tryz.underlying102 (by kernel_rfl)
theorem Qkj:Aggr Tryz.prog 112 2:=Qau (by trivial) Tryz.underlying112 (by kernel_rfl)
theorem Y3:EInfo Tryz.prog 3 1 8 (.int .i64 0):=JC (by kernel_rfl) rfl (by decide)
theorem JB:EInfo Tryz.prog 9 1 16 (.string ByteArray.empty):=JC (by kernel_rfl) rfl (by decide)
theorem QHj:EInfo Tryz.prog 27 1 24 (.slice none 0 0):=JC (by kernel_rfl) rfl (by decide)
theorem QHk:EInfo Tryz.prog 32 3 24 (.agg (List.toArray [(.int .i64 0),(.int .i64 0),(.int .i64 0)])):=JC (by kernel_rfl) rfl (by decide)
theorem Z1:EInfo Tryz.prog 38 1 8 (.int .i64 0):=JC (by kernel_rfl) rfl (by decide)
theorem Qag:EInfo Tryz.prog 44 2 32 (.agg (List.toArray [(.slice none 0 0),(.int .i64 0)])):=JC (by kernel_rfl) rfl (by decide)
theorem Qxj:EInfo Tryz.prog 60 5 40 (.agg (List.toArray [(.int .i64 0),(.int .i64 0),(.int .i64 0),(.int .i64 0),(.int .i64 0)])):=JC (by kernel_rfl) rfl (by decide)
theorem Zc:EInfo Tryz.prog 78 2 24 (.agg (List.toArray [(.string ByteArray.empty),(.int .i64 0)])):=JC (by kernel_rfl) rfl (by decide)
theorem Qqp:EInfo Tryz.prog 80 3 64 (.agg (List.toArray [(.string ByteArray.empty),(.slice none 0 0),(.slice none 0 0)])):=JC (by kernel_rfl) rfl (by decide)
theorem QHl:EInfo Tryz.prog 99 1 24 (.slice none 0 0):=JC (by kernel_rfl) rfl (by decide)
theorem Qxh:EInfo Tryz.prog 102 4 32 (.agg (List.toArray [(.int .i64 0),(.int .i64 0),(.int .i64 0),(.pointer none)])):=JC (by kernel_rfl) rfl (by decide)
theorem Qxi:EInfo Tryz.prog 112 2 16 (.agg (List.toArray [(.int .i64 0),(.int .i64 0)])):=JC (by kernel_rfl) rfl (by decide)
theorem QHi:EInfo Tryz.prog 152 1 24 (.slice none 0 0):=JC (by kernel_rfl) rfl (by decide)
theorem Qqo:EInfo Tryz.prog 162 1 8 (.pointer none):=JC (by kernel_rfl) rfl (by decide)
theorem ZZ:BI Tryz.prog 26 [(0,1),(1,1),(2,1),(3,1)] [(.slice none 0 0),(.slice none 0 0),(.slice none 0 0),(.slice none 0 0)]:=Qaw Tryz.underlying26 (by kernel_rfl) (by kernel_rfl)
theorem ZK:BI Tryz.prog 30 [(0,1),(1,1),(2,1)] [(.slice none 0 0),(.slice none 0 0),(.int .i64 0)]:=Qaw Tryz.underlying30 (by kernel_rfl) (by kernel_rfl)
theorem Qbk:BI Tryz.prog 32 [(0,1),(1,1),(2,1)] [(.int .i64 0),(.int .i64 0),(.int .i64 0)]:=Qaw Tryz.underlying32 (by kernel_rfl) (by kernel_rfl)
theorem Qdy:BI Tryz.prog 44 [(0,1),(1,1)] [(.slice none 0 0),(.int .i64 0)]:=Qaw Tryz.underlying44 (by kernel_rfl) (by kernel_rfl)
theorem QFq:BI Tryz.prog 78 [(0,1),(1,1)] [(.string ByteArray.empty),(.int .i64 0)]:=Qaw Tryz.underlying78 (by kernel_rfl) (by kernel_rfl)
theorem Qko:BI Tryz.prog 80 [(0,1),(1,1),(2,1)] [(.string ByteArray.empty),(.slice none 0 0),(.slice none 0 0)]:=Qaw Tryz.underlying80 (by kernel_rfl) (by kernel_rfl)
theorem JZ:BI Tryz.prog 93 [(0,1),(1,1)] [(.int .i64 0),(.int .i64 0)]:=Qaw Tryz.underlying93 (by kernel_rfl) (by kernel_rfl)
theorem QFo:BI Tryz.prog 102 [(0,3),(3,1)] [(.int .i64 0),(.int .i64 0),(.int .i64 0),(.pointer none)]:=Qaw Tryz.underlying102 (by kernel_rfl) (by kernel_rfl)
theorem Qhh:BI Tryz.prog 119 [(0,4),(4,3)] [(.slice none 0 0),(.slice none 0 0),(.slice none 0 0),(.slice none 0 0),(.slice none 0 0),(.slice none 0 0),(.int .i64 0)]:=Qaw Tryz.underlying119 (by kernel_rfl) (by kernel_rfl)
theorem QFp:BI Tryz.prog 126 [(0,1),(1,1)] [(.map none),(.slice none 0 0)]:=Qaw Tryz.underlying126 (by kernel_rfl) (by kernel_rfl)
theorem Qwp:BI Tryz.prog 164 [(0,1),(1,1),(2,3)] [(.pointer none),(.pointer none),(.int .i64 0),(.int .i64 0),(.int .i64 0)]:=Qaw Tryz.underlying164 (by kernel_rfl) (by kernel_rfl)
theorem JV:ZI Tryz.prog 26 [(.slice none 0 0),(.slice none 0 0),(.slice none 0 0),(.slice none 0 0)]:=Z9 (by kernel_rfl)
theorem YY:ZI Tryz.prog 30 [(.slice none 0 0),(.slice none 0 0),(.int .i64 0)]:=Z9 (by kernel_rfl)
theorem Qex:ZI Tryz.prog 32 [(.int .i64 0),(.int .i64 0),(.int .i64 0)]:=Z9 (by kernel_rfl)
theorem Qey:ZI Tryz.prog 44 [(.slice none 0 0),(.int .i64 0)]:=Z9 (by kernel_rfl)
theorem Qac:ZI Tryz.prog 60 [(.int .i64 0),(.int .i64 0),(.int .i64 0),(.int .i64 0),(.int .i64 0)]:=Z9 (by kernel_rfl)
theorem Qpj:ZI Tryz.prog 78 [(.string ByteArray.empty),(.int .i64 0)]:=Z9 (by kernel_rfl)
theorem Qbv:ZI Tryz.prog 80 [(.string ByteArray.empty),(.slice none 0 0),(.slice none 0 0)]:=Z9 (by kernel_rfl)
theorem Jn:ZI Tryz.prog 93 [(.int .i64 0),(.int .i64 0)]:=Z9 (by kernel_rfl)
theorem QZh:ZI Tryz.prog 99 [(.slice none 0 0)]:=Z9 (by kernel_rfl)
theorem QZb:ZI Tryz.prog 102 [(.int .i64 0),(.int .i64 0),(.int .i64 0),(.pointer none)]:=Z9 (by kernel_rfl)
theorem QZc:ZI Tryz.prog 112 [(.int .i64 0),(.int .i64 0)]:=Z9 (by kernel_rfl)
theorem QEj:ZI Tryz.prog 130 [(.pointer none),(.slice none 0 0)]:=Z9 (by kernel_rfl)
theorem QZd:ZI Tryz.prog 165 [(.slice none 0 0)]:=Z9 (by kernel_rfl)
theorem QZe:ZI Tryz.prog 190 [.nilFunc,.nilFunc,.nilFunc,.nilFunc]:=Z9 (by kernel_rfl)
theorem nm7:(Tryz.f7.name == numgo)=false:=by kernel_rfl
theorem nm8:(Tryz.f8.name == numgo)=false:=by kernel_rfl
theorem nm9:(Tryz.f9.name == numgo)=false:=by kernel_rfl
theorem QNr:(Tryz.f10.name == numgo)=false:=by kernel_rfl
theorem QNx:(Tryz.f11.name == numgo)=false:=by kernel_rfl
theorem QOh:(Tryz.f12.name == numgo)=false:=by kernel_rfl
theorem Qzo:(Tryz.f13.name == numgo)=false:=by kernel_rfl
theorem Qih:(Tryz.f14.name == numgo)=false:=by kernel_rfl
theorem Qzq:(Tryz.f15.name == numgo)=false:=by kernel_rfl
theorem QPa:(Tryz.f17.name == numgo)=false:=by kernel_rfl
theorem Qzr:(Tryz.f18.name == numgo)=false:=by kernel_rfl
theorem QPd:(Tryz.f19.name == numgo)=false:=by kernel_rfl
theorem QPe:(Tryz.f20.name == numgo)=false:=by kernel_rfl
theorem Qmp:(Tryz.f25.name == numgo)=false:=by kernel_rfl
theorem QPf:(Tryz.f26.name == numgo)=false:=by kernel_rfl
theorem QPg:(Tryz.f27.name == numgo)=false:=by kernel_rfl
theorem Qzs:(Tryz.f28.name == numgo)=false:=by kernel_rfl
theorem QPh:(Tryz.f29.name == numgo)=false:=by kernel_rfl
theorem QPi:(Tryz.f30.name == numgo)=false:=by kernel_rfl
theorem QPj:(Tryz.f31.name == numgo)=false:=by kernel_rfl
theorem QPk:(Tryz.f32.name == numgo)=false:=by kernel_rfl
theorem Qsq:(Tryz.f33.name == numgo)=false:=by kernel_rfl
theorem Qal:(Tryz.f34.name == numgo)=false:=by kernel_rfl
theorem QPl:(Tryz.f35.name == numgo)=false:=by kernel_rfl
theorem Qzt:(Tryz.f36.name == numgo)=false:=by kernel_rfl
theorem Qzu:(Tryz.f37.name == numgo)=false:=by kernel_rfl
theorem Qzv:(Tryz.f38.name == numgo)=false:=by kernel_rfl
theorem Qsr:(Tryz.f39.name == numgo)=false:=by kernel_rfl
theorem Qzw:(Tryz.f40.name == numgo)=false:=by kernel_rfl
theorem Jh:(Tryz.f41.name == numgo)=false:=by kernel_rfl
theorem JG:(Tryz.f42.name == numgo)=false:=by kernel_rfl
theorem Z7:(Tryz.f43.name == numgo)=false:=by kernel_rfl
theorem Qmq:(Tryz.f44.name == numgo)=false:=by kernel_rfl
theorem QPm:(Tryz.f46.name == numgo)=false:=by kernel_rfl
theorem Qzx:(Tryz.f47.name == numgo)=false:=by kernel_rfl
theorem Qmr:(Tryz.f48.name == numgo)=false:=by kernel_rfl
theorem QPn:(Tryz.f49.name == numgo)=false:=by kernel_rfl
theorem QPo:(Tryz.f50.name == numgo)=false:=by kernel_rfl
theorem QPp:(Tryz.f53.name == numgo)=false:=by kernel_rfl
theorem QPq:(Tryz.f54.name == numgo)=false:=by kernel_rfl
theorem QPr:(Tryz.f55.name == numgo)=false:=by kernel_rfl
theorem Qzy:(Tryz.f56.name == numgo)=false:=by kernel_rfl
theorem Qms:(Tryz.f57.name == numgo)=false:=by kernel_rfl
theorem QPs:(Tryz.f58.name == numgo)=false:=by kernel_rfl
theorem Qef:(Tryz.f59.name == numgo)=false:=by kernel_rfl
theorem QPt:(Tryz.f60.name == numgo)=false:=by kernel_rfl
theorem QPu:(Tryz.f61.name == numgo)=false:=by kernel_rfl
theorem QPv:(Tryz.f62.name == numgo)=false:=by kernel_rfl
theorem Yn:(Tryz.f63.name == numgo)=false:=by kernel_rfl
theorem Qzz:(Tryz.f64.name == numgo)=false:=by kernel_rfl
theorem Qss:(Tryz.f65.name == numgo)=false:=by kernel_rfl
theorem Qii:(Tryz.f66.name == numgo)=false:=by kernel_rfl
theorem QAa:(Tryz.f67.name == numgo)=false:=by kernel_rfl
theorem QPw:(Tryz.f68.name == numgo)=false:=by kernel_rfl
theorem QPx:(Tryz.f69.name == numgo)=false:=by kernel_rfl
theorem Qeg:(Tryz.f70.name == numgo)=false:=by kernel_rfl
theorem Qfy:(Tryz.f71.name == numgo)=false:=by kernel_rfl
theorem Qst:(Tryz.f72.name == numgo)=false:=by kernel_rfl
theorem QAb:(Tryz.f73.name == numgo)=false:=by kernel_rfl
theorem QPy:(Tryz.f74.name == numgo)=false:=by kernel_rfl
theorem Qsu:(Tryz.f75.name == numgo)=false:=by kernel_rfl
theorem QPz:(Tryz.f76.name == numgo)=false:=by kernel_rfl
theorem Qcg:(Tryz.f77.name == numgo)=false:=by kernel_rfl
theorem QAc:(Tryz.f78.name == numgo)=false:=by kernel_rfl
theorem QQa:(Tryz.f79.name == numgo)=false:=by kernel_rfl
theorem Qmt:(Tryz.f80.name == numgo)=false:=by kernel_rfl
theorem Qmu:(Tryz.f81.name == numgo)=false:=by kernel_rfl
theorem Qfz:(Tryz.f82.name == numgo)=false:=by kernel_rfl
theorem QAd:(Tryz.f83.name == numgo)=false:=by kernel_rfl
theorem QQb:(Tryz.f84.name == numgo)=false:=by kernel_rfl
theorem QQc:(Tryz.f85.name == numgo)=false:=by kernel_rfl
theorem QAe:(Tryz.f86.name == numgo)=false:=by kernel_rfl
theorem QQd:(Tryz.f87.name == numgo)=false:=by kernel_rfl
theorem QQe:(Tryz.f88.name == numgo)=false:=by kernel_rfl
theorem Qsv:(Tryz.f89.name == numgo)=false:=by kernel_rfl
theorem QQf:(Tryz.f90.name == numgo)=false:=by kernel_rfl
theorem QQg:(Tryz.f91.name == numgo)=false:=by kernel_rfl
theorem QAf:(Tryz.f92.name == numgo)=false:=by kernel_rfl
theorem QQh:(Tryz.f93.name == numgo)=false:=by kernel_rfl
theorem QQi:(Tryz.f94.name == numgo)=false:=by kernel_rfl
theorem Qmv:(Tryz.f95.name == numgo)=false:=by kernel_rfl
theorem QAg:(Tryz.f96.name == numgo)=false:=by kernel_rfl
theorem QQj:(Tryz.f97.name == numgo)=false:=by kernel_rfl
theorem QQk:(Tryz.f98.name == numgo)=false:=by kernel_rfl
theorem QQl:(Tryz.f99.name == numgo)=false:=by kernel_rfl
theorem QNs:(Tryz.f105.name == numgo)=false:=by kernel_rfl
theorem QNt:(Tryz.f106.name == numgo)=false:=by kernel_rfl
theorem QNu:(Tryz.f107.name == numgo)=false:=by kernel_rfl
theorem QNv:(Tryz.f108.name == numgo)=false:=by kernel_rfl
theorem QNw:(Tryz.f109.name == numgo)=false:=by kernel_rfl
theorem QNy:(Tryz.f110.name == numgo)=false:=by kernel_rfl
theorem QNz:(Tryz.f111.name == numgo)=false:=by kernel_rfl
theorem QOa:(Tryz.f112.name == numgo)=false:=by kernel_rfl
theorem Qzn:(Tryz.f113.name == numgo)=false:=by kernel_rfl
theorem QOb:(Tryz.f114.name == numgo)=false:=by kernel_rfl
theorem QOc:(Tryz.f115.name == numgo)=false:=by kernel_rfl
theorem QOd:(Tryz.f116.name == numgo)=false:=by kernel_rfl
theorem QOe:(Tryz.f117.name == numgo)=false:=by kernel_rfl
theorem QOf:(Tryz.f118.name == numgo)=false:=by kernel_rfl
theorem QOg:(Tryz.f119.name == numgo)=false:=by kernel_rfl
theorem QOi:(Tryz.f120.name == numgo)=false:=by kernel_rfl
theorem QOj:(Tryz.f121.name == numgo)=false:=by kernel_rfl
theorem QOk:(Tryz.f122.name == numgo)=false:=by kernel_rfl
theorem QOl:(Tryz.f123.name == numgo)=false:=by kernel_rfl
theorem QOm:(Tryz.f124.name == numgo)=false:=by kernel_rfl
theorem QOn:(Tryz.f125.name == numgo)=false:=by kernel_rfl
theorem Qso:(Tryz.f126.name == numgo)=false:=by kernel_rfl
theorem QOo:(Tryz.f127.name == numgo)=false:=by kernel_rfl
theorem QOp:(Tryz.f128.name == numgo)=false:=by kernel_rfl
theorem QOq:(Tryz.f129.name == numgo)=false:=by kernel_rfl
theorem QOr:(Tryz.f130.name == numgo)=false:=by kernel_rfl
theorem QOs:(Tryz.f131.name == numgo)=false:=by kernel_rfl
theorem QOt:(Tryz.f132.name == numgo)=false:=by kernel_rfl
theorem QOu:(Tryz.f141.name == numgo)=false:=by kernel_rfl
theorem Qzp:(Tryz.f142.name == numgo)=false:=by kernel_rfl
theorem QOv:(Tryz.f162.name == numgo)=false:=by kernel_rfl
theorem QOw:(Tryz.f164.name == numgo)=false:=by kernel_rfl
theorem QOx:(Tryz.f165.name == numgo)=false:=by kernel_rfl
theorem Qsp:(Tryz.f166.name == numgo)=false:=by kernel_rfl
theorem QOy:(Tryz.f167.name == numgo)=false:=by kernel_rfl
theorem QOz:(Tryz.f168.name == numgo)=false:=by kernel_rfl
theorem QPb:(Tryz.f179.name == numgo)=false:=by kernel_rfl
theorem QPc:(Tryz.f184.name == numgo)=false:=by kernel_rfl
theorem Qqn:Tryz.prog.eqGuardType Tryz.prog.depth 60=false:=by kernel_rfl
theorem Qqs (a b:Ni):EqS Tryz.prog 60 (List.toArray [(.int .i64 a.e0),(.int .i64 a.e1),(.int .i64 a.e2),(.int .i64 a.e3),(.int .i64 a.e4)]) (List.toArray [(.int .i64 b.e0),(.int .i64 b.e1),(.int .i64 b.e2),(.int .i64 b.e3),(.int .i64 b.e4)]) (decide (a=b)):=by
  refine ⟨by intro c hc;simp at hc;(repeat' (rcases hc with rfl | hc));all_goals (first | rfl | (subst hc;rfl) | simp_all [Qfj]),fun w=>?_⟩
  have u3:=Tryz.underlying3
  have a3:=Tryz.isAgg3
  have z3:=Tryz.sizeOf3
  rw [Op.equalIn]
  simp only [Sem.run_bind,run_underlying Tryz.underlying60,Result.andThen_ok]
  simp only [Std.Legacy.Range.forIn_eq_forIn_range',Std.Legacy.Range.size,Nat.sub_zero,Nat.add_sub_cancel,Nat.div_one,List.range'_succ,List.range'_zero,List.forIn_cons,List.forIn_nil]
  go_simp
  cases a;cases b;simp only [Ni.mk.injEq]
  repeat' split
  all_goals simp_all
theorem XE:Tryz.prog.follows .mixedOrders=true:=by kernel_rfl
end Go.Gw
