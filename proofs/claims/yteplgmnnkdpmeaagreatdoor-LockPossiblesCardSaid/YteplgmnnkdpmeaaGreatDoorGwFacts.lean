/- Facts of the types of the program. No condition. -/
import Derived.Test.YteplgmnnkdpmeaaGreatDoorGwSt
import Derived.Test.YteplgmnnkdpmeaaGreatDoorGwLib5
import Derived.Laws.StructEq
import Derived.Test.YteplgmnnkdpmeaaGreatDoorProg
set_option linter.unusedVariables false
set_option linter.unusedSimpArgs false
set_option linter.unusedSectionVars false
set_option maxRecDepth 100000
namespace Go.Gw
open Go Go.Proofs
abbrev numgo : String := "runtime.NumGoroutine"
theorem QK:Xy Tryz.prog 3 1:=YE (by kernel_rfl)
theorem sz5:Xy Tryz.prog 5 1:=YE (by kernel_rfl)
theorem Y8:Xy Tryz.prog 9 1:=YE (by kernel_rfl)
theorem Yi:Xy Tryz.prog 22 1:=YE (by kernel_rfl)
theorem YU:Xy Tryz.prog 23 1:=YE (by kernel_rfl)
theorem Y1:Xy Tryz.prog 24 1:=YE (by kernel_rfl)
theorem Zd:Xy Tryz.prog 26 4:=YE (by kernel_rfl)
theorem Q9:Xy Tryz.prog 27 1:=YE (by kernel_rfl)
theorem XY:Xy Tryz.prog 28 1:=YE (by kernel_rfl)
theorem XC:Xy Tryz.prog 30 3:=YE (by kernel_rfl)
theorem Qba:Xy Tryz.prog 32 3:=YE (by kernel_rfl)
theorem QVe:Xy Tryz.prog 38 1:=YE (by kernel_rfl)
theorem Yy:Xy Tryz.prog 44 2:=YE (by kernel_rfl)
theorem Qpa:Xy Tryz.prog 60 5:=YE (by kernel_rfl)
theorem ZT:Xy Tryz.prog 78 2:=YE (by kernel_rfl)
theorem Ze:Xy Tryz.prog 80 3:=YE (by kernel_rfl)
theorem QFc:Xy Tryz.prog 83 1:=YE (by kernel_rfl)
theorem YV:Xy Tryz.prog 93 2:=YE (by kernel_rfl)
theorem QFd:Xy Tryz.prog 99 1:=YE (by kernel_rfl)
theorem Qoz:Xy Tryz.prog 102 4:=YE (by kernel_rfl)
theorem Qdh:Xy Tryz.prog 112 2:=YE (by kernel_rfl)
theorem Qkb:Xy Tryz.prog 123 1:=YE (by kernel_rfl)
theorem Qch:Xy Tryz.prog 124 1:=YE (by kernel_rfl)
theorem QVc:Xy Tryz.prog 162 1:=YE (by kernel_rfl)
theorem QVd:Xy Tryz.prog 165 1:=YE (by kernel_rfl)
theorem Qkc:Xy Tryz.prog 185 1:=YE (by kernel_rfl)
theorem QS:Y9 Tryz.prog 3:=⟨_,Tryz.underlying3,trivial⟩
theorem sc5:Y9 Tryz.prog 5:=⟨_,Tryz.underlying5,trivial⟩
theorem Zv:Y9 Tryz.prog 9:=⟨_,Tryz.underlying9,trivial⟩
theorem Yh:Y9 Tryz.prog 22:=⟨_,Tryz.underlying22,trivial⟩
theorem YT:Y9 Tryz.prog 23:=⟨_,Tryz.underlying23,trivial⟩
theorem Y7:Y9 Tryz.prog 24:=⟨_,Tryz.underlying24,trivial⟩
theorem Xc:Y9 Tryz.prog 27:=⟨_,Tryz.underlying27,trivial⟩
theorem Ye:Y9 Tryz.prog 28:=⟨_,Tryz.underlying28,trivial⟩
theorem QTj:Y9 Tryz.prog 38:=⟨_,Tryz.underlying38,trivial⟩
theorem Qjp:Y9 Tryz.prog 83:=⟨_,Tryz.underlying83,trivial⟩
theorem Qjq:Y9 Tryz.prog 99:=⟨_,Tryz.underlying99,trivial⟩
theorem Qjn:Y9 Tryz.prog 123:=⟨_,Tryz.underlying123,trivial⟩
theorem Qjo:Y9 Tryz.prog 124:=⟨_,Tryz.underlying124,trivial⟩
theorem QTh:Y9 Tryz.prog 162:=⟨_,Tryz.underlying162,trivial⟩
theorem QTi:Y9 Tryz.prog 165:=⟨_,Tryz.underlying165,trivial⟩
theorem Qoq:Y9 Tryz.prog 185:=⟨_,Tryz.underlying185,trivial⟩
theorem XO:Aggr Tryz.prog 26 4:=Qbe (by trivial) Tryz.underlying26 (by kernel_rfl)
theorem Xr:Aggr Tryz.prog 30 3:=Qbe (by trivial) Tryz.underlying30 (by kernel_rfl)
theorem Zk:Aggr Tryz.prog 32 3:=Qbe (by trivial) Tryz.underlying32 (by kernel_rfl)
theorem Qbu:Aggr Tryz.prog 44 2:=Qbe (by trivial) Tryz.underlying44 (by kernel_rfl)
theorem Qhj:Aggr Tryz.prog 60 5:=Qbe (by trivial) Tryz.underlying60 (by kernel_rfl)
theorem Qfk:Aggr Tryz.prog 78 2:=Qbe (by trivial) Tryz.underlying78 (by kernel_rfl)
theorem JX:Aggr Tryz.prog 80 3:=Qbe (by trivial) Tryz.underlying80 (by kernel_rfl)
theorem YR:Aggr Tryz.prog 93 2:=Qbe (by trivial) Tryz.underlying93 (by kernel_rfl)
theorem Qyd:Aggr Tryz.prog 102 4:=Qbe (by trivial) Tryz.underlying102 (by kernel_rfl)
theorem Qku:Aggr Tryz.prog 112 2:=Qbe (by trivial) Tryz.underlying112 (by kernel_rfl)
theorem Y3:EInfo Tryz.prog 3 1 8 (.int .i64 0):=Qag (by kernel_rfl) rfl (by decide)
theorem JB:EInfo Tryz.prog 9 1 16 (.string ByteArray.empty):=Qag (by kernel_rfl) rfl (by decide)
theorem QJc:EInfo Tryz.prog 27 1 24 (.slice none 0 0):=Qag (by kernel_rfl) rfl (by decide)
theorem Qeb:EInfo Tryz.prog 32 3 24 (.agg (List.toArray [(.int .i64 0),(.int .i64 0),(.int .i64 0)])):=Qag (by kernel_rfl) rfl (by decide)
theorem Z5:EInfo Tryz.prog 38 1 8 (.int .i64 0):=Qag (by kernel_rfl) rfl (by decide)
theorem Qaf:EInfo Tryz.prog 44 2 32 (.agg (List.toArray [(.slice none 0 0),(.int .i64 0)])):=Qag (by kernel_rfl) rfl (by decide)
theorem Za:EInfo Tryz.prog 78 2 24 (.agg (List.toArray [(.string ByteArray.empty),(.int .i64 0)])):=Qag (by kernel_rfl) rfl (by decide)
theorem Qqz:EInfo Tryz.prog 80 3 64 (.agg (List.toArray [(.string ByteArray.empty),(.slice none 0 0),(.slice none 0 0)])):=Qag (by kernel_rfl) rfl (by decide)
theorem QJd:EInfo Tryz.prog 99 1 24 (.slice none 0 0):=Qag (by kernel_rfl) rfl (by decide)
theorem Qzj:EInfo Tryz.prog 102 4 32 (.agg (List.toArray [(.int .i64 0),(.int .i64 0),(.int .i64 0),(.pointer none)])):=Qag (by kernel_rfl) rfl (by decide)
theorem Qzk:EInfo Tryz.prog 112 2 16 (.agg (List.toArray [(.int .i64 0),(.int .i64 0)])):=Qag (by kernel_rfl) rfl (by decide)
theorem Qqy:EInfo Tryz.prog 162 1 8 (.pointer none):=Qag (by kernel_rfl) rfl (by decide)
theorem Z3:BI Tryz.prog 26 [(0,1),(1,1),(2,1),(3,1)] [(.slice none 0 0),(.slice none 0 0),(.slice none 0 0),(.slice none 0 0)]:=Qar Tryz.underlying26 (by kernel_rfl) (by kernel_rfl)
theorem Jh:BI Tryz.prog 30 [(0,1),(1,1),(2,1)] [(.slice none 0 0),(.slice none 0 0),(.int .i64 0)]:=Qar Tryz.underlying30 (by kernel_rfl) (by kernel_rfl)
theorem Qhp:BI Tryz.prog 32 [(0,1),(1,1),(2,1)] [(.int .i64 0),(.int .i64 0),(.int .i64 0)]:=Qar Tryz.underlying32 (by kernel_rfl) (by kernel_rfl)
theorem Qdx:BI Tryz.prog 44 [(0,1),(1,1)] [(.slice none 0 0),(.int .i64 0)]:=Qar Tryz.underlying44 (by kernel_rfl) (by kernel_rfl)
theorem QHn:BI Tryz.prog 78 [(0,1),(1,1)] [(.string ByteArray.empty),(.int .i64 0)]:=Qar Tryz.underlying78 (by kernel_rfl) (by kernel_rfl)
theorem Qla:BI Tryz.prog 80 [(0,1),(1,1),(2,1)] [(.string ByteArray.empty),(.slice none 0 0),(.slice none 0 0)]:=Qar Tryz.underlying80 (by kernel_rfl) (by kernel_rfl)
theorem JY:BI Tryz.prog 93 [(0,1),(1,1)] [(.int .i64 0),(.int .i64 0)]:=Qar Tryz.underlying93 (by kernel_rfl) (by kernel_rfl)
theorem QHl:BI Tryz.prog 102 [(0,3),(3,1)] [(.int .i64 0),(.int .i64 0),(.int .i64 0),(.pointer none)]:=Qar Tryz.underlying102 (by kernel_rfl) (by kernel_rfl)
theorem Qho:BI Tryz.prog 119 [(0,4),(4,3)] [(.slice none 0 0),(.slice none 0 0),(.slice none 0 0),(.slice none 0 0),(.slice none 0 0),(.slice none 0 0),(.int .i64 0)]:=Qar Tryz.underlying119 (by kernel_rfl) (by kernel_rfl)
theorem QHm:BI Tryz.prog 126 [(0,1),(1,1)] [(.map none),(.slice none 0 0)]:=Qar Tryz.underlying126 (by kernel_rfl) (by kernel_rfl)
theorem Qyr:BI Tryz.prog 164 [(0,1),(1,1),(2,3)] [(.pointer none),(.pointer none),(.int .i64 0),(.int .i64 0),(.int .i64 0)]:=Qar Tryz.underlying164 (by kernel_rfl) (by kernel_rfl)
theorem JT:ZI Tryz.prog 26 [(.slice none 0 0),(.slice none 0 0),(.slice none 0 0),(.slice none 0 0)]:=Jc (by kernel_rfl)
theorem YQ:ZI Tryz.prog 30 [(.slice none 0 0),(.slice none 0 0),(.int .i64 0)]:=Jc (by kernel_rfl)
theorem Qxq:ZI Tryz.prog 32 [(.int .i64 0),(.int .i64 0),(.int .i64 0)]:=Jc (by kernel_rfl)
theorem Qfh:ZI Tryz.prog 44 [(.slice none 0 0),(.int .i64 0)]:=Jc (by kernel_rfl)
theorem Qhb:ZI Tryz.prog 60 [(.int .i64 0),(.int .i64 0),(.int .i64 0),(.int .i64 0),(.int .i64 0)]:=Jc (by kernel_rfl)
theorem Qpt:ZI Tryz.prog 78 [(.string ByteArray.empty),(.int .i64 0)]:=Jc (by kernel_rfl)
theorem Qbs:ZI Tryz.prog 80 [(.string ByteArray.empty),(.slice none 0 0),(.slice none 0 0)]:=Jc (by kernel_rfl)
theorem Js:ZI Tryz.prog 93 [(.int .i64 0),(.int .i64 0)]:=Jc (by kernel_rfl)
theorem QYg:ZI Tryz.prog 99 [(.slice none 0 0)]:=Jc (by kernel_rfl)
theorem QGj:ZI Tryz.prog 102 [(.int .i64 0),(.int .i64 0),(.int .i64 0),(.pointer none)]:=Jc (by kernel_rfl)
theorem QYb:ZI Tryz.prog 112 [(.int .i64 0),(.int .i64 0)]:=Jc (by kernel_rfl)
theorem QGk:ZI Tryz.prog 130 [(.pointer none),(.slice none 0 0)]:=Jc (by kernel_rfl)
theorem QYc:ZI Tryz.prog 165 [(.slice none 0 0)]:=Jc (by kernel_rfl)
theorem QYd:ZI Tryz.prog 190 [.nilFunc,.nilFunc,.nilFunc,.nilFunc]:=Jc (by kernel_rfl)
theorem nm7:(Tryz.f7.name == numgo)=false:=by kernel_rfl
theorem nm8:(Tryz.f8.name == numgo)=false:=by kernel_rfl
theorem nm9:(Tryz.f9.name == numgo)=false:=by kernel_rfl
theorem QNp:(Tryz.f10.name == numgo)=false:=by kernel_rfl
theorem Qul:(Tryz.f11.name == numgo)=false:=by kernel_rfl
theorem Qda:(Tryz.f12.name == numgo)=false:=by kernel_rfl
theorem Qel:(Tryz.f13.name == numgo)=false:=by kernel_rfl
theorem Qcd:(Tryz.f14.name == numgo)=false:=by kernel_rfl
theorem QBv:(Tryz.f15.name == numgo)=false:=by kernel_rfl
theorem QOo:(Tryz.f16.name == numgo)=false:=by kernel_rfl
theorem QBw:(Tryz.f17.name == numgo)=false:=by kernel_rfl
theorem Quo:(Tryz.f18.name == numgo)=false:=by kernel_rfl
theorem QBx:(Tryz.f19.name == numgo)=false:=by kernel_rfl
theorem QOw:(Tryz.f20.name == numgo)=false:=by kernel_rfl
theorem QOx:(Tryz.f21.name == numgo)=false:=by kernel_rfl
theorem QOy:(Tryz.f22.name == numgo)=false:=by kernel_rfl
theorem QOz:(Tryz.f23.name == numgo)=false:=by kernel_rfl
theorem QPa:(Tryz.f24.name == numgo)=false:=by kernel_rfl
theorem QPb:(Tryz.f27.name == numgo)=false:=by kernel_rfl
theorem QBy:(Tryz.f28.name == numgo)=false:=by kernel_rfl
theorem QPc:(Tryz.f29.name == numgo)=false:=by kernel_rfl
theorem QPd:(Tryz.f30.name == numgo)=false:=by kernel_rfl
theorem QPe:(Tryz.f31.name == numgo)=false:=by kernel_rfl
theorem QPf:(Tryz.f32.name == numgo)=false:=by kernel_rfl
theorem Qup:(Tryz.f33.name == numgo)=false:=by kernel_rfl
theorem Qal:(Tryz.f34.name == numgo)=false:=by kernel_rfl
theorem QPg:(Tryz.f35.name == numgo)=false:=by kernel_rfl
theorem QBz:(Tryz.f36.name == numgo)=false:=by kernel_rfl
theorem Quq:(Tryz.f37.name == numgo)=false:=by kernel_rfl
theorem Qur:(Tryz.f38.name == numgo)=false:=by kernel_rfl
theorem Qus:(Tryz.f39.name == numgo)=false:=by kernel_rfl
theorem QCa:(Tryz.f40.name == numgo)=false:=by kernel_rfl
theorem Jn:(Tryz.f41.name == numgo)=false:=by kernel_rfl
theorem JF:(Tryz.f42.name == numgo)=false:=by kernel_rfl
theorem Z9:(Tryz.f43.name == numgo)=false:=by kernel_rfl
theorem Qge:(Tryz.f44.name == numgo)=false:=by kernel_rfl
theorem QPh:(Tryz.f45.name == numgo)=false:=by kernel_rfl
theorem QPi:(Tryz.f46.name == numgo)=false:=by kernel_rfl
theorem QPj:(Tryz.f47.name == numgo)=false:=by kernel_rfl
theorem Qnb:(Tryz.f48.name == numgo)=false:=by kernel_rfl
theorem QPk:(Tryz.f49.name == numgo)=false:=by kernel_rfl
theorem Qut:(Tryz.f50.name == numgo)=false:=by kernel_rfl
theorem QPl:(Tryz.f51.name == numgo)=false:=by kernel_rfl
theorem QPm:(Tryz.f52.name == numgo)=false:=by kernel_rfl
theorem Quu:(Tryz.f57.name == numgo)=false:=by kernel_rfl
theorem QPn:(Tryz.f58.name == numgo)=false:=by kernel_rfl
theorem Qem:(Tryz.f59.name == numgo)=false:=by kernel_rfl
theorem QPo:(Tryz.f60.name == numgo)=false:=by kernel_rfl
theorem QPp:(Tryz.f61.name == numgo)=false:=by kernel_rfl
theorem QPq:(Tryz.f62.name == numgo)=false:=by kernel_rfl
theorem Yq:(Tryz.f63.name == numgo)=false:=by kernel_rfl
theorem QCb:(Tryz.f64.name == numgo)=false:=by kernel_rfl
theorem QCc:(Tryz.f65.name == numgo)=false:=by kernel_rfl
theorem Qnc:(Tryz.f66.name == numgo)=false:=by kernel_rfl
theorem QPr:(Tryz.f67.name == numgo)=false:=by kernel_rfl
theorem QPs:(Tryz.f68.name == numgo)=false:=by kernel_rfl
theorem QPt:(Tryz.f69.name == numgo)=false:=by kernel_rfl
theorem Qen:(Tryz.f70.name == numgo)=false:=by kernel_rfl
theorem Qgf:(Tryz.f71.name == numgo)=false:=by kernel_rfl
theorem Quv:(Tryz.f72.name == numgo)=false:=by kernel_rfl
theorem QCd:(Tryz.f73.name == numgo)=false:=by kernel_rfl
theorem QPu:(Tryz.f74.name == numgo)=false:=by kernel_rfl
theorem Quw:(Tryz.f75.name == numgo)=false:=by kernel_rfl
theorem QPv:(Tryz.f76.name == numgo)=false:=by kernel_rfl
theorem Qce:(Tryz.f77.name == numgo)=false:=by kernel_rfl
theorem QCe:(Tryz.f78.name == numgo)=false:=by kernel_rfl
theorem QPw:(Tryz.f79.name == numgo)=false:=by kernel_rfl
theorem Qnd:(Tryz.f80.name == numgo)=false:=by kernel_rfl
theorem Qne:(Tryz.f81.name == numgo)=false:=by kernel_rfl
theorem Qgg:(Tryz.f82.name == numgo)=false:=by kernel_rfl
theorem QCf:(Tryz.f83.name == numgo)=false:=by kernel_rfl
theorem QPx:(Tryz.f84.name == numgo)=false:=by kernel_rfl
theorem QPy:(Tryz.f85.name == numgo)=false:=by kernel_rfl
theorem QCg:(Tryz.f86.name == numgo)=false:=by kernel_rfl
theorem QPz:(Tryz.f87.name == numgo)=false:=by kernel_rfl
theorem QQa:(Tryz.f88.name == numgo)=false:=by kernel_rfl
theorem Qux:(Tryz.f89.name == numgo)=false:=by kernel_rfl
theorem QQb:(Tryz.f90.name == numgo)=false:=by kernel_rfl
theorem Quy:(Tryz.f95.name == numgo)=false:=by kernel_rfl
theorem QCh:(Tryz.f96.name == numgo)=false:=by kernel_rfl
theorem QQc:(Tryz.f97.name == numgo)=false:=by kernel_rfl
theorem QQd:(Tryz.f98.name == numgo)=false:=by kernel_rfl
theorem QQe:(Tryz.f99.name == numgo)=false:=by kernel_rfl
theorem QNq:(Tryz.f105.name == numgo)=false:=by kernel_rfl
theorem QNr:(Tryz.f106.name == numgo)=false:=by kernel_rfl
theorem QNs:(Tryz.f107.name == numgo)=false:=by kernel_rfl
theorem QNt:(Tryz.f108.name == numgo)=false:=by kernel_rfl
theorem QNu:(Tryz.f109.name == numgo)=false:=by kernel_rfl
theorem QNv:(Tryz.f110.name == numgo)=false:=by kernel_rfl
theorem QNw:(Tryz.f111.name == numgo)=false:=by kernel_rfl
theorem QNx:(Tryz.f112.name == numgo)=false:=by kernel_rfl
theorem QBt:(Tryz.f113.name == numgo)=false:=by kernel_rfl
theorem QNy:(Tryz.f114.name == numgo)=false:=by kernel_rfl
theorem QNz:(Tryz.f115.name == numgo)=false:=by kernel_rfl
theorem QOa:(Tryz.f116.name == numgo)=false:=by kernel_rfl
theorem QOb:(Tryz.f117.name == numgo)=false:=by kernel_rfl
theorem QOc:(Tryz.f118.name == numgo)=false:=by kernel_rfl
theorem QOd:(Tryz.f119.name == numgo)=false:=by kernel_rfl
theorem QOe:(Tryz.f120.name == numgo)=false:=by kernel_rfl
theorem QOf:(Tryz.f121.name == numgo)=false:=by kernel_rfl
theorem QOg:(Tryz.f122.name == numgo)=false:=by kernel_rfl
theorem QOh:(Tryz.f123.name == numgo)=false:=by kernel_rfl
theorem QOi:(Tryz.f124.name == numgo)=false:=by kernel_rfl
theorem QOj:(Tryz.f125.name == numgo)=false:=by kernel_rfl
theorem Qum:(Tryz.f126.name == numgo)=false:=by kernel_rfl
theorem QOk:(Tryz.f127.name == numgo)=false:=by kernel_rfl
theorem QOl:(Tryz.f128.name == numgo)=false:=by kernel_rfl
theorem QOm:(Tryz.f132.name == numgo)=false:=by kernel_rfl
theorem QOn:(Tryz.f141.name == numgo)=false:=by kernel_rfl
theorem QBu:(Tryz.f142.name == numgo)=false:=by kernel_rfl
theorem QOp:(Tryz.f162.name == numgo)=false:=by kernel_rfl
theorem QOq:(Tryz.f164.name == numgo)=false:=by kernel_rfl
theorem QOr:(Tryz.f165.name == numgo)=false:=by kernel_rfl
theorem Qun:(Tryz.f166.name == numgo)=false:=by kernel_rfl
theorem QOs:(Tryz.f167.name == numgo)=false:=by kernel_rfl
theorem QOt:(Tryz.f168.name == numgo)=false:=by kernel_rfl
theorem QOu:(Tryz.f179.name == numgo)=false:=by kernel_rfl
theorem QOv:(Tryz.f184.name == numgo)=false:=by kernel_rfl
theorem QJa:Tryz.prog.eqGuardType Tryz.prog.depth 32=false:=by kernel_rfl
theorem QJh (a b:Nj):EqS Tryz.prog 32 (List.toArray [(.int .i64 a.Kind),(.int .i64 a.A),(.int .i64 a.B)]) (List.toArray [(.int .i64 b.Kind),(.int .i64 b.A),(.int .i64 b.B)]) (decide (a=b)):=by
  refine ⟨fun c hc=>by
    simp at hc
    repeat' (rcases hc with rfl | hc)
    all_goals simp_all [Qec],fun w=>?_⟩
  have u3:=Tryz.underlying3
  have a3:=Tryz.isAgg3
  have z3:=Tryz.sizeOf3
  have hS:Tryz.prog.underlying 32=some (.struct (Tryz.prog.fieldsOf 32)):=by kernel_rfl
  have hp:Tryz.prog.stoodInHeld 32=false:=by kernel_rfl
  rw [run_equalIn_agg w 9999 32 _ _ hS hp]
  simp only [Program.fieldsOf,Tryz.underlying32]
  go_simp
  cases a;cases b;simp only [Nj.mk.injEq]
  repeat' split
  all_goals simp_all [QHt]
theorem QJb:Tryz.prog.eqGuardType Tryz.prog.depth 60=false:=by kernel_rfl
theorem QJi (a b:Nw):EqS Tryz.prog 60 (List.toArray [(.int .i64 a.e0),(.int .i64 a.e1),(.int .i64 a.e2),(.int .i64 a.e3),(.int .i64 a.e4)]) (List.toArray [(.int .i64 b.e0),(.int .i64 b.e1),(.int .i64 b.e2),(.int .i64 b.e3),(.int .i64 b.e4)]) (decide (a=b)):=by
  refine ⟨by intro c hc;simp at hc;(repeat' (rcases hc with rfl | hc));all_goals (first | rfl | (subst hc;rfl) | simp_all [Qec]),fun w=>?_⟩
  have u3:=Tryz.underlying3
  have a3:=Tryz.isAgg3
  have z3:=Tryz.sizeOf3
  rw [Op.equalIn]
  simp only [Sem.run_bind,run_underlying Tryz.underlying60,Result.andThen_ok]
  simp only [Std.Legacy.Range.forIn_eq_forIn_range',Std.Legacy.Range.size,Nat.sub_zero,Nat.add_sub_cancel,Nat.div_one,List.range'_succ,List.range'_zero,List.forIn_cons,List.forIn_nil]
  go_simp
  cases a;cases b;simp only [Nw.mk.injEq]
  repeat' split
  all_goals simp_all
theorem XD:Tryz.prog.follows .mixedOrders=true:=by kernel_rfl
end Go.Gw
