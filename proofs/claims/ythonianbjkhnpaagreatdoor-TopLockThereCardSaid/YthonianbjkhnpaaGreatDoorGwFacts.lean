/- Facts of the types of the program. No condition. -/
import Derived.Test.YthonianbjkhnpaaGreatDoorGwSt
import Derived.Test.YthonianbjkhnpaaGreatDoorGwLib5
import Derived.Laws.StructEq
import Derived.Test.YthonianbjkhnpaaGreatDoorProg
set_option linter.unusedVariables false
set_option linter.unusedSimpArgs false
set_option linter.unusedSectionVars false
set_option maxRecDepth 100000
namespace Go.Gw
open Go Go.Proofs
abbrev numgo : String := "runtime.NumGoroutine"
theorem QU:Xl Tryz.prog 3 1:=Yw (by kernel_rfl)
theorem JT:Xl Tryz.prog 5 1:=Yw (by kernel_rfl)
theorem Y2:Xl Tryz.prog 9 1:=Yw (by kernel_rfl)
theorem X2:Xl Tryz.prog 22 1:=Yw (by kernel_rfl)
theorem YH:Xl Tryz.prog 23 1:=Yw (by kernel_rfl)
theorem Zd:Xl Tryz.prog 24 1:=Yw (by kernel_rfl)
theorem Y8:Xl Tryz.prog 26 4:=Yw (by kernel_rfl)
theorem QVe:Xl Tryz.prog 30 1:=Yw (by kernel_rfl)
theorem Q9:Xl Tryz.prog 36 1:=Yw (by kernel_rfl)
theorem YB:Xl Tryz.prog 37 1:=Yw (by kernel_rfl)
theorem X3:Xl Tryz.prog 39 3:=Yw (by kernel_rfl)
theorem Qag:Xl Tryz.prog 52 3:=Yw (by kernel_rfl)
theorem Zj:Xl Tryz.prog 62 2:=Yw (by kernel_rfl)
theorem ZQ:Xl Tryz.prog 78 2:=Yw (by kernel_rfl)
theorem Z8:Xl Tryz.prog 80 3:=Yw (by kernel_rfl)
theorem YC:Xl Tryz.prog 82 2:=Yw (by kernel_rfl)
theorem Qkh:Xl Tryz.prog 88 1:=Yw (by kernel_rfl)
theorem Qdl:Xl Tryz.prog 92 1:=Yw (by kernel_rfl)
theorem Z9:Xl Tryz.prog 93 1:=Yw (by kernel_rfl)
theorem Qkf:Xl Tryz.prog 105 1:=Yw (by kernel_rfl)
theorem QDh:Xl Tryz.prog 138 1:=Yw (by kernel_rfl)
theorem QVd:Xl Tryz.prog 143 1:=Yw (by kernel_rfl)
theorem Qun:Xl Tryz.prog 150 1:=Yw (by kernel_rfl)
theorem Qoy:Xl Tryz.prog 153 4:=Yw (by kernel_rfl)
theorem Qkg:Xl Tryz.prog 175 1:=Yw (by kernel_rfl)
theorem QY:YX Tryz.prog 3:=⟨_,Tryz.underlying3,trivial⟩
theorem sc5:YX Tryz.prog 5:=⟨_,Tryz.underlying5,trivial⟩
theorem Zq:YX Tryz.prog 9:=⟨_,Tryz.underlying9,trivial⟩
theorem X1:YX Tryz.prog 22:=⟨_,Tryz.underlying22,trivial⟩
theorem YG:YX Tryz.prog 23:=⟨_,Tryz.underlying23,trivial⟩
theorem Zp:YX Tryz.prog 24:=⟨_,Tryz.underlying24,trivial⟩
theorem QTp:YX Tryz.prog 30:=⟨_,Tryz.underlying30,trivial⟩
theorem Xb:YX Tryz.prog 36:=⟨_,Tryz.underlying36,trivial⟩
theorem Zb:YX Tryz.prog 37:=⟨_,Tryz.underlying37,trivial⟩
theorem Qdi:YX Tryz.prog 88:=⟨_,Tryz.underlying88,trivial⟩
theorem Qdj:YX Tryz.prog 92:=⟨_,Tryz.underlying92,trivial⟩
theorem Qbn:YX Tryz.prog 93:=⟨_,Tryz.underlying93,trivial⟩
theorem Qjx:YX Tryz.prog 105:=⟨_,Tryz.underlying105,trivial⟩
theorem QCm:YX Tryz.prog 138:=⟨_,Tryz.underlying138,trivial⟩
theorem QTo:YX Tryz.prog 143:=⟨_,Tryz.underlying143,trivial⟩
theorem Qgu:YX Tryz.prog 150:=⟨_,Tryz.underlying150,trivial⟩
theorem Qop:YX Tryz.prog 175:=⟨_,Tryz.underlying175,trivial⟩
theorem XN:Aggr Tryz.prog 26 4:=Qbu (by trivial) Tryz.underlying26 (by kernel_rfl)
theorem Yj:Aggr Tryz.prog 39 3:=Qbu (by trivial) Tryz.underlying39 (by kernel_rfl)
theorem Qvv:Aggr Tryz.prog 40 2:=Qbu (by trivial) Tryz.underlying40 (by kernel_rfl)
theorem J5:Aggr Tryz.prog 52 3:=Qbu (by trivial) Tryz.underlying52 (by kernel_rfl)
theorem Qbt:Aggr Tryz.prog 62 2:=Qbu (by trivial) Tryz.underlying62 (by kernel_rfl)
theorem Qdz:Aggr Tryz.prog 78 2:=Qbu (by trivial) Tryz.underlying78 (by kernel_rfl)
theorem Qbg:Aggr Tryz.prog 80 3:=Qbu (by trivial) Tryz.underlying80 (by kernel_rfl)
theorem Yz:Aggr Tryz.prog 82 2:=Qbu (by trivial) Tryz.underlying82 (by kernel_rfl)
theorem Qvu:Aggr Tryz.prog 153 4:=Qbu (by trivial) Tryz.underlying153 (by kernel_rfl)
theorem YL:EInfo Tryz.prog 3 1 8 (.int .i64 0):=Qat (by kernel_rfl) rfl (by decide)
theorem JN:EInfo Tryz.prog 9 1 16 (.string ByteArray.empty):=Qat (by kernel_rfl) rfl (by decide)
theorem Jf:EInfo Tryz.prog 30 1 8 (.int .i64 0):=Qat (by kernel_rfl) rfl (by decide)
theorem QIa:EInfo Tryz.prog 36 1 24 (.slice none 0 0):=Qat (by kernel_rfl) rfl (by decide)
theorem Qqx:EInfo Tryz.prog 52 3 24 (.agg (List.toArray [(.int .i64 0),(.int .i64 0),(.int .i64 0)])):=Qat (by kernel_rfl) rfl (by decide)
theorem Qcx:EInfo Tryz.prog 62 2 32 (.agg (List.toArray [(.slice none 0 0),(.int .i64 0)])):=Qat (by kernel_rfl) rfl (by decide)
theorem Y3:EInfo Tryz.prog 78 2 24 (.agg (List.toArray [(.string ByteArray.empty),(.int .i64 0)])):=Qat (by kernel_rfl) rfl (by decide)
theorem Qqy:EInfo Tryz.prog 80 3 64 (.agg (List.toArray [(.string ByteArray.empty),(.slice none 0 0),(.slice none 0 0)])):=Qat (by kernel_rfl) rfl (by decide)
theorem Qhx:EInfo Tryz.prog 105 1 8 (.pointer none):=Qat (by kernel_rfl) rfl (by decide)
theorem Qxk:EInfo Tryz.prog 150 1 24 (.slice none 0 0):=Qat (by kernel_rfl) rfl (by decide)
theorem Qxl:EInfo Tryz.prog 153 4 32 (.agg (List.toArray [(.int .i64 0),(.int .i64 0),(.int .i64 0),(.pointer none)])):=Qat (by kernel_rfl) rfl (by decide)
theorem Jc:BI Tryz.prog 26 [(0,1),(1,1),(2,1),(3,1)] [(.slice none 0 0),(.slice none 0 0),(.slice none 0 0),(.slice none 0 0)]:=Qas Tryz.underlying26 (by kernel_rfl) (by kernel_rfl)
theorem Qbw:BI Tryz.prog 39 [(0,1),(1,1),(2,1)] [(.slice none 0 0),(.slice none 0 0),(.int .i64 0)]:=Qas Tryz.underlying39 (by kernel_rfl) (by kernel_rfl)
theorem Qqj:BI Tryz.prog 52 [(0,1),(1,1),(2,1)] [(.int .i64 0),(.int .i64 0),(.int .i64 0)]:=Qas Tryz.underlying52 (by kernel_rfl) (by kernel_rfl)
theorem Qqk:BI Tryz.prog 62 [(0,1),(1,1)] [(.slice none 0 0),(.int .i64 0)]:=Qas Tryz.underlying62 (by kernel_rfl) (by kernel_rfl)
theorem QGg:BI Tryz.prog 78 [(0,1),(1,1)] [(.string ByteArray.empty),(.int .i64 0)]:=Qas Tryz.underlying78 (by kernel_rfl) (by kernel_rfl)
theorem Qld:BI Tryz.prog 80 [(0,1),(1,1),(2,1)] [(.string ByteArray.empty),(.slice none 0 0),(.slice none 0 0)]:=Qas Tryz.underlying80 (by kernel_rfl) (by kernel_rfl)
theorem J6:BI Tryz.prog 82 [(0,1),(1,1)] [(.int .i64 0),(.int .i64 0)]:=Qas Tryz.underlying82 (by kernel_rfl) (by kernel_rfl)
theorem Qhr:BI Tryz.prog 91 [(0,4),(4,3)] [(.slice none 0 0),(.slice none 0 0),(.slice none 0 0),(.slice none 0 0),(.slice none 0 0),(.slice none 0 0),(.int .i64 0)]:=Qas Tryz.underlying91 (by kernel_rfl) (by kernel_rfl)
theorem QGh:BI Tryz.prog 95 [(0,1),(1,1)] [(.map none),(.slice none 0 0)]:=Qas Tryz.underlying95 (by kernel_rfl) (by kernel_rfl)
theorem Qqi:BI Tryz.prog 107 [(0,1),(1,1),(2,3)] [(.pointer none),(.pointer none),(.int .i64 0),(.int .i64 0),(.int .i64 0)]:=Qas Tryz.underlying107 (by kernel_rfl) (by kernel_rfl)
theorem QGf:BI Tryz.prog 153 [(0,3),(3,1)] [(.int .i64 0),(.int .i64 0),(.int .i64 0),(.pointer none)]:=Qas Tryz.underlying153 (by kernel_rfl) (by kernel_rfl)
theorem J2:ZI Tryz.prog 26 [(.slice none 0 0),(.slice none 0 0),(.slice none 0 0),(.slice none 0 0)]:=JB (by kernel_rfl)
theorem JI:ZI Tryz.prog 39 [(.slice none 0 0),(.slice none 0 0),(.int .i64 0)]:=JB (by kernel_rfl)
theorem QEy:ZI Tryz.prog 52 [(.int .i64 0),(.int .i64 0),(.int .i64 0)]:=JB (by kernel_rfl)
theorem Qds:ZI Tryz.prog 62 [(.slice none 0 0),(.int .i64 0)]:=JB (by kernel_rfl)
theorem Qkv:ZI Tryz.prog 78 [(.string ByteArray.empty),(.int .i64 0)]:=JB (by kernel_rfl)
theorem Qfg:ZI Tryz.prog 80 [(.string ByteArray.empty),(.slice none 0 0),(.slice none 0 0)]:=JB (by kernel_rfl)
theorem JA:ZI Tryz.prog 82 [(.int .i64 0),(.int .i64 0)]:=JB (by kernel_rfl)
theorem QEv:ZI Tryz.prog 126 [(.pointer none),(.slice none 0 0)]:=JB (by kernel_rfl)
theorem QEw:ZI Tryz.prog 138 [(.slice none 0 0)]:=JB (by kernel_rfl)
theorem QYl:ZI Tryz.prog 150 [(.slice none 0 0)]:=JB (by kernel_rfl)
theorem QEx:ZI Tryz.prog 153 [(.int .i64 0),(.int .i64 0),(.int .i64 0),(.pointer none)]:=JB (by kernel_rfl)
theorem QYm:ZI Tryz.prog 180 [.nilFunc,.nilFunc,.nilFunc,.nilFunc]:=JB (by kernel_rfl)
theorem QYo:ZI Tryz.prog 227 [(.int .u8 0),(.int .u8 0),(.int .u8 0),(.int .u8 0),(.int .u8 0),(.int .u8 0),(.int .u8 0),(.int .u8 0),(.int .u8 0),(.int .u8 0),(.int .u8 0),(.int .u8 0),(.int .u8 0),(.int .u8 0),(.int .u8 0),(.int .u8 0),(.int .u8 0),(.int .u8 0),(.int .u8 0),(.int .u8 0),(.int .u8 0),(.int .u8 0),(.int .u8 0),(.int .u8 0)]:=JB (by kernel_rfl)
theorem nm7:(Tryz.f7.name == numgo)=false:=by kernel_rfl
theorem nm8:(Tryz.f8.name == numgo)=false:=by kernel_rfl
theorem nm9:(Tryz.f9.name == numgo)=false:=by kernel_rfl
theorem QOg:(Tryz.f10.name == numgo)=false:=by kernel_rfl
theorem Qen:(Tryz.f11.name == numgo)=false:=by kernel_rfl
theorem QOx:(Tryz.f13.name == numgo)=false:=by kernel_rfl
theorem QAf:(Tryz.f15.name == numgo)=false:=by kernel_rfl
theorem Qde:(Tryz.f16.name == numgo)=false:=by kernel_rfl
theorem QPh:(Tryz.f17.name == numgo)=false:=by kernel_rfl
theorem QAg:(Tryz.f18.name == numgo)=false:=by kernel_rfl
theorem QPo:(Tryz.f22.name == numgo)=false:=by kernel_rfl
theorem QPp:(Tryz.f23.name == numgo)=false:=by kernel_rfl
theorem Qnf:(Tryz.f24.name == numgo)=false:=by kernel_rfl
theorem QPq:(Tryz.f25.name == numgo)=false:=by kernel_rfl
theorem QPr:(Tryz.f26.name == numgo)=false:=by kernel_rfl
theorem Qjc:(Tryz.f27.name == numgo)=false:=by kernel_rfl
theorem Qcd:(Tryz.f28.name == numgo)=false:=by kernel_rfl
theorem QPs:(Tryz.f29.name == numgo)=false:=by kernel_rfl
theorem QPt:(Tryz.f31.name == numgo)=false:=by kernel_rfl
theorem QPu:(Tryz.f32.name == numgo)=false:=by kernel_rfl
theorem QPv:(Tryz.f33.name == numgo)=false:=by kernel_rfl
theorem Qng:(Tryz.f35.name == numgo)=false:=by kernel_rfl
theorem QPw:(Tryz.f36.name == numgo)=false:=by kernel_rfl
theorem Qsv:(Tryz.f37.name == numgo)=false:=by kernel_rfl
theorem QAh:(Tryz.f38.name == numgo)=false:=by kernel_rfl
theorem QAi:(Tryz.f39.name == numgo)=false:=by kernel_rfl
theorem QAj:(Tryz.f40.name == numgo)=false:=by kernel_rfl
theorem Jx:(Tryz.f41.name == numgo)=false:=by kernel_rfl
theorem Qjd:(Tryz.f42.name == numgo)=false:=by kernel_rfl
theorem Qje:(Tryz.f46.name == numgo)=false:=by kernel_rfl
theorem Jj:(Tryz.f47.name == numgo)=false:=by kernel_rfl
theorem QAk:(Tryz.f48.name == numgo)=false:=by kernel_rfl
theorem Qnh:(Tryz.f49.name == numgo)=false:=by kernel_rfl
theorem Qeo:(Tryz.f50.name == numgo)=false:=by kernel_rfl
theorem QPx:(Tryz.f51.name == numgo)=false:=by kernel_rfl
theorem QPy:(Tryz.f54.name == numgo)=false:=by kernel_rfl
theorem QPz:(Tryz.f55.name == numgo)=false:=by kernel_rfl
theorem QAl:(Tryz.f56.name == numgo)=false:=by kernel_rfl
theorem Qsw:(Tryz.f57.name == numgo)=false:=by kernel_rfl
theorem QAm:(Tryz.f58.name == numgo)=false:=by kernel_rfl
theorem Qjf:(Tryz.f59.name == numgo)=false:=by kernel_rfl
theorem QAn:(Tryz.f60.name == numgo)=false:=by kernel_rfl
theorem Yg:(Tryz.f61.name == numgo)=false:=by kernel_rfl
theorem QAo:(Tryz.f62.name == numgo)=false:=by kernel_rfl
theorem QQa:(Tryz.f67.name == numgo)=false:=by kernel_rfl
theorem QQb:(Tryz.f68.name == numgo)=false:=by kernel_rfl
theorem Qep:(Tryz.f70.name == numgo)=false:=by kernel_rfl
theorem Qgk:(Tryz.f71.name == numgo)=false:=by kernel_rfl
theorem Qsx:(Tryz.f72.name == numgo)=false:=by kernel_rfl
theorem QAp:(Tryz.f73.name == numgo)=false:=by kernel_rfl
theorem QAq:(Tryz.f74.name == numgo)=false:=by kernel_rfl
theorem QQc:(Tryz.f75.name == numgo)=false:=by kernel_rfl
theorem QQd:(Tryz.f76.name == numgo)=false:=by kernel_rfl
theorem QQe:(Tryz.f77.name == numgo)=false:=by kernel_rfl
theorem QQf:(Tryz.f86.name == numgo)=false:=by kernel_rfl
theorem Qsy:(Tryz.f87.name == numgo)=false:=by kernel_rfl
theorem QQg:(Tryz.f88.name == numgo)=false:=by kernel_rfl
theorem Qce:(Tryz.f89.name == numgo)=false:=by kernel_rfl
theorem QAr:(Tryz.f90.name == numgo)=false:=by kernel_rfl
theorem Qni:(Tryz.f92.name == numgo)=false:=by kernel_rfl
theorem Qgl:(Tryz.f93.name == numgo)=false:=by kernel_rfl
theorem QAs:(Tryz.f94.name == numgo)=false:=by kernel_rfl
theorem QQh:(Tryz.f95.name == numgo)=false:=by kernel_rfl
theorem QQi:(Tryz.f96.name == numgo)=false:=by kernel_rfl
theorem QQj:(Tryz.f97.name == numgo)=false:=by kernel_rfl
theorem QQk:(Tryz.f98.name == numgo)=false:=by kernel_rfl
theorem QAt:(Tryz.f99.name == numgo)=false:=by kernel_rfl
theorem QOh:(Tryz.f104.name == numgo)=false:=by kernel_rfl
theorem QOi:(Tryz.f105.name == numgo)=false:=by kernel_rfl
theorem Qst:(Tryz.f106.name == numgo)=false:=by kernel_rfl
theorem QOj:(Tryz.f107.name == numgo)=false:=by kernel_rfl
theorem QOk:(Tryz.f108.name == numgo)=false:=by kernel_rfl
theorem QAe:(Tryz.f109.name == numgo)=false:=by kernel_rfl
theorem QOl:(Tryz.f110.name == numgo)=false:=by kernel_rfl
theorem QOm:(Tryz.f111.name == numgo)=false:=by kernel_rfl
theorem QOn:(Tryz.f112.name == numgo)=false:=by kernel_rfl
theorem QOo:(Tryz.f113.name == numgo)=false:=by kernel_rfl
theorem QOp:(Tryz.f114.name == numgo)=false:=by kernel_rfl
theorem QOq:(Tryz.f115.name == numgo)=false:=by kernel_rfl
theorem QOr:(Tryz.f116.name == numgo)=false:=by kernel_rfl
theorem QOs:(Tryz.f117.name == numgo)=false:=by kernel_rfl
theorem QOt:(Tryz.f118.name == numgo)=false:=by kernel_rfl
theorem QOu:(Tryz.f119.name == numgo)=false:=by kernel_rfl
theorem QOv:(Tryz.f120.name == numgo)=false:=by kernel_rfl
theorem QOw:(Tryz.f121.name == numgo)=false:=by kernel_rfl
theorem QOy:(Tryz.f135.name == numgo)=false:=by kernel_rfl
theorem QOz:(Tryz.f142.name == numgo)=false:=by kernel_rfl
theorem QPa:(Tryz.f143.name == numgo)=false:=by kernel_rfl
theorem QPb:(Tryz.f144.name == numgo)=false:=by kernel_rfl
theorem QPc:(Tryz.f154.name == numgo)=false:=by kernel_rfl
theorem QPd:(Tryz.f157.name == numgo)=false:=by kernel_rfl
theorem Qsu:(Tryz.f159.name == numgo)=false:=by kernel_rfl
theorem QPe:(Tryz.f160.name == numgo)=false:=by kernel_rfl
theorem QPf:(Tryz.f161.name == numgo)=false:=by kernel_rfl
theorem QPg:(Tryz.f166.name == numgo)=false:=by kernel_rfl
theorem QPi:(Tryz.f173.name == numgo)=false:=by kernel_rfl
theorem QPj:(Tryz.f174.name == numgo)=false:=by kernel_rfl
theorem QPk:(Tryz.f175.name == numgo)=false:=by kernel_rfl
theorem QPl:(Tryz.f178.name == numgo)=false:=by kernel_rfl
theorem QPm:(Tryz.f180.name == numgo)=false:=by kernel_rfl
theorem QPn:(Tryz.f181.name == numgo)=false:=by kernel_rfl
theorem XB:Tryz.prog.follows .mixedOrders=true:=by kernel_rfl
end Go.Gw
