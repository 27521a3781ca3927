/- Facts of the types of the program. No condition. -/
import Derived.Test.YtbigilldfhjedaaGreatDoorGwSt
import Derived.Test.YtbigilldfhjedaaGreatDoorGwLib5
import Derived.Laws.StructEq
import Derived.Laws.Externs
import Derived.Test.YtbigilldfhjedaaGreatDoorGwLib21
import Derived.Test.YtbigilldfhjedaaGreatDoorProg
set_option linter.unusedVariables false
set_option linter.unusedSimpArgs false
set_option linter.unusedSectionVars false
set_option maxRecDepth 100000
namespace Go.Gw
open Go Go.Proofs
abbrev numgo : String := "runtime.NumGoroutine"
theorem QJ:Xh Tryz.prog 3 1:=Yi (by kernel_rfl)
theorem X4:Xh Tryz.prog 5 1:=Yi (by kernel_rfl)
theorem XB:Xh Tryz.prog 9 1:=Yi (by kernel_rfl)
theorem Ys:Xh Tryz.prog 22 1:=Yi (by kernel_rfl)
theorem Y5:Xh Tryz.prog 23 1:=Yi (by kernel_rfl)
theorem Zy:Xh Tryz.prog 24 1:=Yi (by kernel_rfl)
theorem Qfh:Xh Tryz.prog 26 4:=Yi (by kernel_rfl)
theorem ZF:Xh Tryz.prog 28 3:=Yi (by kernel_rfl)
theorem Xd:Xh Tryz.prog 29 1:=Yi (by kernel_rfl)
theorem Yd:Xh Tryz.prog 30 1:=Yi (by kernel_rfl)
theorem XZ:Xh Tryz.prog 32 3:=Yi (by kernel_rfl)
theorem Q3k:Xh Tryz.prog 41 1:=Yi (by kernel_rfl)
theorem Qvq:Xh Tryz.prog 63 5:=Yi (by kernel_rfl)
theorem ZR:Xh Tryz.prog 78 2:=Yi (by kernel_rfl)
theorem ZG:Xh Tryz.prog 80 3:=Yi (by kernel_rfl)
theorem Y0:Xh Tryz.prog 82 2:=Yi (by kernel_rfl)
theorem Qvp:Xh Tryz.prog 104 1:=Yi (by kernel_rfl)
theorem Zl:Xh Tryz.prog 113 2:=Yi (by kernel_rfl)
theorem QGm:Xh Tryz.prog 122 1:=Yi (by kernel_rfl)
theorem Qdn:Xh Tryz.prog 138 2:=Yi (by kernel_rfl)
theorem Qkc:Xh Tryz.prog 144 1:=Yi (by kernel_rfl)
theorem Qcf:Xh Tryz.prog 145 1:=Yi (by kernel_rfl)
theorem Q3h:Xh Tryz.prog 174 1:=Yi (by kernel_rfl)
theorem Q3i:Xh Tryz.prog 177 1:=Yi (by kernel_rfl)
theorem Q3j:Xh Tryz.prog 182 1:=Yi (by kernel_rfl)
theorem QGn:Xh Tryz.prog 188 1:=Yi (by kernel_rfl)
theorem QGo:Xh Tryz.prog 191 4:=Yi (by kernel_rfl)
theorem Qkd:Xh Tryz.prog 201 1:=Yi (by kernel_rfl)
theorem QQ:YV Tryz.prog 3:=⟨_,Tryz.underlying3,trivial⟩
theorem sc5:YV Tryz.prog 5:=⟨_,Tryz.underlying5,trivial⟩
theorem XV:YV Tryz.prog 9:=⟨_,Tryz.underlying9,trivial⟩
theorem Yr:YV Tryz.prog 22:=⟨_,Tryz.underlying22,trivial⟩
theorem Y4:YV Tryz.prog 23:=⟨_,Tryz.underlying23,trivial⟩
theorem Zx:YV Tryz.prog 24:=⟨_,Tryz.underlying24,trivial⟩
theorem Xj:YV Tryz.prog 29:=⟨_,Tryz.underlying29,trivial⟩
theorem YZ:YV Tryz.prog 30:=⟨_,Tryz.underlying30,trivial⟩
theorem Q0h:YV Tryz.prog 41:=⟨_,Tryz.underlying41,trivial⟩
theorem QFe:YV Tryz.prog 91:=⟨_,Tryz.underlying91,trivial⟩
theorem Quv:YV Tryz.prog 104:=⟨_,Tryz.underlying104,trivial⟩
theorem Qjq:YV Tryz.prog 122:=⟨_,Tryz.underlying122,trivial⟩
theorem Qjr:YV Tryz.prog 144:=⟨_,Tryz.underlying144,trivial⟩
theorem Qjs:YV Tryz.prog 145:=⟨_,Tryz.underlying145,trivial⟩
theorem Q0e:YV Tryz.prog 174:=⟨_,Tryz.underlying174,trivial⟩
theorem Q0f:YV Tryz.prog 177:=⟨_,Tryz.underlying177,trivial⟩
theorem Q0g:YV Tryz.prog 182:=⟨_,Tryz.underlying182,trivial⟩
theorem Quw:YV Tryz.prog 188:=⟨_,Tryz.underlying188,trivial⟩
theorem Qov:YV Tryz.prog 201:=⟨_,Tryz.underlying201,trivial⟩
theorem YW:Aggr Tryz.prog 26 4:=Qaw (by trivial) Tryz.underlying26 (by kernel_rfl)
theorem Zk:Aggr Tryz.prog 28 3:=Qaw (by trivial) Tryz.underlying28 (by kernel_rfl)
theorem YE:Aggr Tryz.prog 32 3:=Qaw (by trivial) Tryz.underlying32 (by kernel_rfl)
theorem Qkx:Aggr Tryz.prog 63 5:=Qaw (by trivial) Tryz.underlying63 (by kernel_rfl)
theorem Qfw:Aggr Tryz.prog 78 2:=Qaw (by trivial) Tryz.underlying78 (by kernel_rfl)
theorem Qbn:Aggr Tryz.prog 80 3:=Qaw (by trivial) Tryz.underlying80 (by kernel_rfl)
theorem Jy:Aggr Tryz.prog 82 2:=Qaw (by trivial) Tryz.underlying82 (by kernel_rfl)
theorem ZJ:Aggr Tryz.prog 113 2:=Qaw (by trivial) Tryz.underlying113 (by kernel_rfl)
theorem Qkw:Aggr Tryz.prog 138 2:=Qaw (by trivial) Tryz.underlying138 (by kernel_rfl)
theorem QIv:Aggr Tryz.prog 191 4:=Qaw (by trivial) Tryz.underlying191 (by kernel_rfl)
theorem YF:EInfo Tryz.prog 3 1 8 (.int .i64 0):=JA (by kernel_rfl) rfl (by decide)
theorem ei5:EInfo Tryz.prog 5 1 1 (.int .u8 0):=JA (by kernel_rfl) rfl (by decide)
theorem ZM:EInfo Tryz.prog 9 1 16 (.string ByteArray.empty):=JA (by kernel_rfl) rfl (by decide)
theorem QLl:EInfo Tryz.prog 28 3 24 (.agg (List.toArray [(.int .i64 0),(.int .i64 0),(.int .i64 0)])):=JA (by kernel_rfl) rfl (by decide)
theorem QLm:EInfo Tryz.prog 29 1 24 (.slice none 0 0):=JA (by kernel_rfl) rfl (by decide)
theorem Jz:EInfo Tryz.prog 41 1 8 (.int .i64 0):=JA (by kernel_rfl) rfl (by decide)
theorem QLn:EInfo Tryz.prog 78 2 24 (.agg (List.toArray [(.string ByteArray.empty),(.int .i64 0)])):=JA (by kernel_rfl) rfl (by decide)
theorem QLo:EInfo Tryz.prog 80 3 64 (.agg (List.toArray [(.string ByteArray.empty),(.slice none 0 0),(.slice none 0 0)])):=JA (by kernel_rfl) rfl (by decide)
theorem J6:EInfo Tryz.prog 82 2 32 (.agg (List.toArray [(.slice none 0 0),(.int .i64 0)])):=JA (by kernel_rfl) rfl (by decide)
theorem Qrl:EInfo Tryz.prog 104 1 8 (.pointer none):=JA (by kernel_rfl) rfl (by decide)
theorem Qyv:EInfo Tryz.prog 138 2 16 (.agg (List.toArray [(.int .i64 0),(.int .i64 0)])):=JA (by kernel_rfl) rfl (by decide)
theorem Qrm:EInfo Tryz.prog 174 1 8 (.pointer none):=JA (by kernel_rfl) rfl (by decide)
theorem QLk:EInfo Tryz.prog 188 1 24 (.slice none 0 0):=JA (by kernel_rfl) rfl (by decide)
theorem Qyw:EInfo Tryz.prog 191 4 32 (.agg (List.toArray [(.int .i64 0),(.int .i64 0),(.int .i64 0),(.pointer none)])):=JA (by kernel_rfl) rfl (by decide)
theorem Qxq:BI Tryz.prog 26 [(0,1),(1,1),(2,1),(3,1)] [(.slice none 0 0),(.slice none 0 0),(.slice none 0 0),(.slice none 0 0)]:=J3 Tryz.underlying26 (by kernel_rfl) (by kernel_rfl)
theorem Qay:BI Tryz.prog 28 [(0,1),(1,1),(2,1)] [(.int .i64 0),(.int .i64 0),(.int .i64 0)]:=J3 Tryz.underlying28 (by kernel_rfl) (by kernel_rfl)
theorem JS:BI Tryz.prog 32 [(0,1),(1,1),(2,1)] [(.slice none 0 0),(.slice none 0 0),(.int .i64 0)]:=J3 Tryz.underlying32 (by kernel_rfl) (by kernel_rfl)
theorem QJo:BI Tryz.prog 78 [(0,1),(1,1)] [(.string ByteArray.empty),(.int .i64 0)]:=J3 Tryz.underlying78 (by kernel_rfl) (by kernel_rfl)
theorem Qqw:BI Tryz.prog 80 [(0,1),(1,1),(2,1)] [(.string ByteArray.empty),(.slice none 0 0),(.slice none 0 0)]:=J3 Tryz.underlying80 (by kernel_rfl) (by kernel_rfl)
theorem Qcp:BI Tryz.prog 82 [(0,1),(1,1)] [(.slice none 0 0),(.int .i64 0)]:=J3 Tryz.underlying82 (by kernel_rfl) (by kernel_rfl)
theorem Qbp:BI Tryz.prog 113 [(0,1),(1,1)] [(.int .i64 0),(.int .i64 0)]:=J3 Tryz.underlying113 (by kernel_rfl) (by kernel_rfl)
theorem Qlc:BI Tryz.prog 125 [(0,4),(4,3)] [(.slice none 0 0),(.slice none 0 0),(.slice none 0 0),(.slice none 0 0),(.slice none 0 0),(.slice none 0 0),(.int .i64 0)]:=J3 Tryz.underlying125 (by kernel_rfl) (by kernel_rfl)
theorem QJm:BI Tryz.prog 147 [(0,1),(1,1)] [(.map none),(.slice none 0 0)]:=J3 Tryz.underlying147 (by kernel_rfl) (by kernel_rfl)
theorem Qxp:BI Tryz.prog 176 [(0,1),(1,1),(2,3)] [(.pointer none),(.pointer none),(.int .i64 0),(.int .i64 0),(.int .i64 0)]:=J3 Tryz.underlying176 (by kernel_rfl) (by kernel_rfl)
theorem QJn:BI Tryz.prog 191 [(0,3),(3,1)] [(.int .i64 0),(.int .i64 0),(.int .i64 0),(.pointer none)]:=J3 Tryz.underlying191 (by kernel_rfl) (by kernel_rfl)
theorem Qxr:BI Tryz.prog 275 [(0,1),(1,1),(2,1)] [(.string ByteArray.empty),(.string ByteArray.empty),.nilIface]:=J3 Tryz.underlying275 (by kernel_rfl) (by kernel_rfl)
theorem Q7c:ZI Tryz.prog 26 [(.slice none 0 0),(.slice none 0 0),(.slice none 0 0),(.slice none 0 0)]:=ZV (by kernel_rfl)
theorem Qdu:ZI Tryz.prog 28 [(.int .i64 0),(.int .i64 0),(.int .i64 0)]:=ZV (by kernel_rfl)
theorem Jk:ZI Tryz.prog 32 [(.slice none 0 0),(.slice none 0 0),(.int .i64 0)]:=ZV (by kernel_rfl)
theorem Qkp:ZI Tryz.prog 63 [(.int .i64 0),(.int .i64 0),(.int .i64 0),(.int .i64 0),(.int .i64 0)]:=ZV (by kernel_rfl)
theorem Qqa:ZI Tryz.prog 78 [(.string ByteArray.empty),(.int .i64 0)]:=ZV (by kernel_rfl)
theorem Qfu:ZI Tryz.prog 80 [(.string ByteArray.empty),(.slice none 0 0),(.slice none 0 0)]:=ZV (by kernel_rfl)
theorem Qbk:ZI Tryz.prog 82 [(.slice none 0 0),(.int .i64 0)]:=ZV (by kernel_rfl)
theorem QIa:ZI Tryz.prog 89 [(.pointer none),(.slice none 0 0)]:=ZV (by kernel_rfl)
theorem Jj:ZI Tryz.prog 113 [(.int .i64 0),(.int .i64 0)]:=ZV (by kernel_rfl)
theorem Q6v:ZI Tryz.prog 138 [(.int .i64 0),(.int .i64 0)]:=ZV (by kernel_rfl)
theorem Q6w:ZI Tryz.prog 177 [(.slice none 0 0)]:=ZV (by kernel_rfl)
theorem Q6x:ZI Tryz.prog 188 [(.slice none 0 0)]:=ZV (by kernel_rfl)
theorem Q6y:ZI Tryz.prog 191 [(.int .i64 0),(.int .i64 0),(.int .i64 0),(.pointer none)]:=ZV (by kernel_rfl)
theorem Q7a:ZI Tryz.prog 206 [.nilFunc,.nilFunc,.nilFunc,.nilFunc]:=ZV (by kernel_rfl)
theorem Q7b:ZI Tryz.prog 239 [(.int .u8 0),(.int .u8 0),(.int .u8 0),(.int .u8 0),(.int .u8 0),(.int .u8 0),(.int .u8 0),(.int .u8 0),(.int .u8 0),(.int .u8 0),(.int .u8 0),(.int .u8 0),(.int .u8 0),(.int .u8 0),(.int .u8 0),(.int .u8 0),(.int .u8 0),(.int .u8 0),(.int .u8 0),(.int .u8 0),(.int .u8 0),(.int .u8 0),(.int .u8 0),(.int .u8 0)]:=ZV (by kernel_rfl)
theorem nm5:(Tryz.f5.name == numgo)=false:=by kernel_rfl
theorem nm6:(Tryz.f6.name == numgo)=false:=by kernel_rfl
theorem nm7:(Tryz.f7.name == numgo)=false:=by kernel_rfl
theorem nm8:(Tryz.f8.name == numgo)=false:=by kernel_rfl
theorem nm9:(Tryz.f9.name == numgo)=false:=by kernel_rfl
theorem QSz:(Tryz.f10.name == numgo)=false:=by kernel_rfl
theorem QTd:(Tryz.f11.name == numgo)=false:=by kernel_rfl
theorem QTi:(Tryz.f12.name == numgo)=false:=by kernel_rfl
theorem QCj:(Tryz.f13.name == numgo)=false:=by kernel_rfl
theorem QCk:(Tryz.f14.name == numgo)=false:=by kernel_rfl
theorem QUf:(Tryz.f15.name == numgo)=false:=by kernel_rfl
theorem QUh:(Tryz.f16.name == numgo)=false:=by kernel_rfl
theorem QCn:(Tryz.f17.name == numgo)=false:=by kernel_rfl
theorem QUj:(Tryz.f18.name == numgo)=false:=by kernel_rfl
theorem QUp:(Tryz.f19.name == numgo)=false:=by kernel_rfl
theorem QUw:(Tryz.f20.name == numgo)=false:=by kernel_rfl
theorem QVc:(Tryz.f22.name == numgo)=false:=by kernel_rfl
theorem QVg:(Tryz.f26.name == numgo)=false:=by kernel_rfl
theorem QVh:(Tryz.f29.name == numgo)=false:=by kernel_rfl
theorem QCq:(Tryz.f30.name == numgo)=false:=by kernel_rfl
theorem QVi:(Tryz.f31.name == numgo)=false:=by kernel_rfl
theorem QVj:(Tryz.f32.name == numgo)=false:=by kernel_rfl
theorem Qtk:(Tryz.f33.name == numgo)=false:=by kernel_rfl
theorem Qbw:(Tryz.f34.name == numgo)=false:=by kernel_rfl
theorem QCr:(Tryz.f35.name == numgo)=false:=by kernel_rfl
theorem Qew:(Tryz.f36.name == numgo)=false:=by kernel_rfl
theorem Qtl:(Tryz.f37.name == numgo)=false:=by kernel_rfl
theorem QCs:(Tryz.f38.name == numgo)=false:=by kernel_rfl
theorem Qtm:(Tryz.f39.name == numgo)=false:=by kernel_rfl
theorem JV:(Tryz.f40.name == numgo)=false:=by kernel_rfl
theorem QCt:(Tryz.f41.name == numgo)=false:=by kernel_rfl
theorem Qit:(Tryz.f42.name == numgo)=false:=by kernel_rfl
theorem Qtn:(Tryz.f43.name == numgo)=false:=by kernel_rfl
theorem Qto:(Tryz.f44.name == numgo)=false:=by kernel_rfl
theorem QVk:(Tryz.f45.name == numgo)=false:=by kernel_rfl
theorem QCu:(Tryz.f46.name == numgo)=false:=by kernel_rfl
theorem Qtp:(Tryz.f47.name == numgo)=false:=by kernel_rfl
theorem QVl:(Tryz.f48.name == numgo)=false:=by kernel_rfl
theorem Qnc:(Tryz.f49.name == numgo)=false:=by kernel_rfl
theorem QCv:(Tryz.f50.name == numgo)=false:=by kernel_rfl
theorem Qiu:(Tryz.f51.name == numgo)=false:=by kernel_rfl
theorem QVm:(Tryz.f52.name == numgo)=false:=by kernel_rfl
theorem QCw:(Tryz.f53.name == numgo)=false:=by kernel_rfl
theorem QVn:(Tryz.f54.name == numgo)=false:=by kernel_rfl
theorem QVo:(Tryz.f55.name == numgo)=false:=by kernel_rfl
theorem QCx:(Tryz.f56.name == numgo)=false:=by kernel_rfl
theorem QVp:(Tryz.f57.name == numgo)=false:=by kernel_rfl
theorem Qtq:(Tryz.f58.name == numgo)=false:=by kernel_rfl
theorem QVq:(Tryz.f59.name == numgo)=false:=by kernel_rfl
theorem JF:(Tryz.f60.name == numgo)=false:=by kernel_rfl
theorem Qtr:(Tryz.f61.name == numgo)=false:=by kernel_rfl
theorem YB:(Tryz.f62.name == numgo)=false:=by kernel_rfl
theorem QCy:(Tryz.f63.name == numgo)=false:=by kernel_rfl
theorem QVr:(Tryz.f64.name == numgo)=false:=by kernel_rfl
theorem QCz:(Tryz.f65.name == numgo)=false:=by kernel_rfl
theorem QVs:(Tryz.f66.name == numgo)=false:=by kernel_rfl
theorem Qts:(Tryz.f68.name == numgo)=false:=by kernel_rfl
theorem QVt:(Tryz.f69.name == numgo)=false:=by kernel_rfl
theorem QDa:(Tryz.f74.name == numgo)=false:=by kernel_rfl
theorem QVu:(Tryz.f75.name == numgo)=false:=by kernel_rfl
theorem Qiv:(Tryz.f76.name == numgo)=false:=by kernel_rfl
theorem QVv:(Tryz.f77.name == numgo)=false:=by kernel_rfl
theorem QVw:(Tryz.f78.name == numgo)=false:=by kernel_rfl
theorem QVx:(Tryz.f79.name == numgo)=false:=by kernel_rfl
theorem QVy:(Tryz.f80.name == numgo)=false:=by kernel_rfl
theorem QVz:(Tryz.f81.name == numgo)=false:=by kernel_rfl
theorem Qdf:(Tryz.f82.name == numgo)=false:=by kernel_rfl
theorem QWa:(Tryz.f83.name == numgo)=false:=by kernel_rfl
theorem QWb:(Tryz.f85.name == numgo)=false:=by kernel_rfl
theorem QWc:(Tryz.f86.name == numgo)=false:=by kernel_rfl
theorem QWd:(Tryz.f87.name == numgo)=false:=by kernel_rfl
theorem QWe:(Tryz.f88.name == numgo)=false:=by kernel_rfl
theorem QWf:(Tryz.f89.name == numgo)=false:=by kernel_rfl
theorem QWg:(Tryz.f90.name == numgo)=false:=by kernel_rfl
theorem QDb:(Tryz.f91.name == numgo)=false:=by kernel_rfl
theorem QWh:(Tryz.f92.name == numgo)=false:=by kernel_rfl
theorem QWi:(Tryz.f93.name == numgo)=false:=by kernel_rfl
theorem QWj:(Tryz.f94.name == numgo)=false:=by kernel_rfl
theorem QDc:(Tryz.f95.name == numgo)=false:=by kernel_rfl
theorem QWk:(Tryz.f96.name == numgo)=false:=by kernel_rfl
theorem QWl:(Tryz.f97.name == numgo)=false:=by kernel_rfl
theorem Qnd:(Tryz.f98.name == numgo)=false:=by kernel_rfl
theorem Qne:(Tryz.f99.name == numgo)=false:=by kernel_rfl
theorem Qgs:(Tryz.f100.name == numgo)=false:=by kernel_rfl
theorem QTa:(Tryz.f101.name == numgo)=false:=by kernel_rfl
theorem QTb:(Tryz.f102.name == numgo)=false:=by kernel_rfl
theorem QCh:(Tryz.f108.name == numgo)=false:=by kernel_rfl
theorem QTc:(Tryz.f109.name == numgo)=false:=by kernel_rfl
theorem QTe:(Tryz.f110.name == numgo)=false:=by kernel_rfl
theorem QTf:(Tryz.f111.name == numgo)=false:=by kernel_rfl
theorem QTg:(Tryz.f112.name == numgo)=false:=by kernel_rfl
theorem QTh:(Tryz.f118.name == numgo)=false:=by kernel_rfl
theorem QTj:(Tryz.f122.name == numgo)=false:=by kernel_rfl
theorem QTk:(Tryz.f123.name == numgo)=false:=by kernel_rfl
theorem QTl:(Tryz.f124.name == numgo)=false:=by kernel_rfl
theorem QTm:(Tryz.f125.name == numgo)=false:=by kernel_rfl
theorem QTn:(Tryz.f126.name == numgo)=false:=by kernel_rfl
theorem Qth:(Tryz.f127.name == numgo)=false:=by kernel_rfl
theorem QTo:(Tryz.f128.name == numgo)=false:=by kernel_rfl
theorem QCi:(Tryz.f129.name == numgo)=false:=by kernel_rfl
theorem QTp:(Tryz.f130.name == numgo)=false:=by kernel_rfl
theorem QTq:(Tryz.f131.name == numgo)=false:=by kernel_rfl
theorem QTr:(Tryz.f132.name == numgo)=false:=by kernel_rfl
theorem QTs:(Tryz.f133.name == numgo)=false:=by kernel_rfl
theorem QTt:(Tryz.f134.name == numgo)=false:=by kernel_rfl
theorem QTu:(Tryz.f135.name == numgo)=false:=by kernel_rfl
theorem QTv:(Tryz.f136.name == numgo)=false:=by kernel_rfl
theorem QTw:(Tryz.f137.name == numgo)=false:=by kernel_rfl
theorem QTx:(Tryz.f138.name == numgo)=false:=by kernel_rfl
theorem QTy:(Tryz.f139.name == numgo)=false:=by kernel_rfl
theorem QTz:(Tryz.f140.name == numgo)=false:=by kernel_rfl
theorem QUa:(Tryz.f141.name == numgo)=false:=by kernel_rfl
theorem QUb:(Tryz.f142.name == numgo)=false:=by kernel_rfl
theorem QUc:(Tryz.f143.name == numgo)=false:=by kernel_rfl
theorem QUd:(Tryz.f144.name == numgo)=false:=by kernel_rfl
theorem QUe:(Tryz.f145.name == numgo)=false:=by kernel_rfl
theorem QUg:(Tryz.f150.name == numgo)=false:=by kernel_rfl
theorem QCl:(Tryz.f159.name == numgo)=false:=by kernel_rfl
theorem QCm:(Tryz.f160.name == numgo)=false:=by kernel_rfl
theorem QUi:(Tryz.f174.name == numgo)=false:=by kernel_rfl
theorem QUk:(Tryz.f180.name == numgo)=false:=by kernel_rfl
theorem QUl:(Tryz.f181.name == numgo)=false:=by kernel_rfl
theorem QUm:(Tryz.f182.name == numgo)=false:=by kernel_rfl
theorem QUn:(Tryz.f187.name == numgo)=false:=by kernel_rfl
theorem QCo:(Tryz.f188.name == numgo)=false:=by kernel_rfl
theorem QUo:(Tryz.f189.name == numgo)=false:=by kernel_rfl
theorem QUq:(Tryz.f190.name == numgo)=false:=by kernel_rfl
theorem QUr:(Tryz.f191.name == numgo)=false:=by kernel_rfl
theorem Qti:(Tryz.f194.name == numgo)=false:=by kernel_rfl
theorem QUs:(Tryz.f195.name == numgo)=false:=by kernel_rfl
theorem QUt:(Tryz.f196.name == numgo)=false:=by kernel_rfl
theorem QUu:(Tryz.f197.name == numgo)=false:=by kernel_rfl
theorem QUv:(Tryz.f198.name == numgo)=false:=by kernel_rfl
theorem QUx:(Tryz.f208.name == numgo)=false:=by kernel_rfl
theorem QUy:(Tryz.f210.name == numgo)=false:=by kernel_rfl
theorem QUz:(Tryz.f211.name == numgo)=false:=by kernel_rfl
theorem QVa:(Tryz.f215.name == numgo)=false:=by kernel_rfl
theorem QVb:(Tryz.f219.name == numgo)=false:=by kernel_rfl
theorem QCp:(Tryz.f220.name == numgo)=false:=by kernel_rfl
theorem QVd:(Tryz.f222.name == numgo)=false:=by kernel_rfl
theorem QVe:(Tryz.f226.name == numgo)=false:=by kernel_rfl
theorem Qtj:(Tryz.f228.name == numgo)=false:=by kernel_rfl
theorem QVf:(Tryz.f229.name == numgo)=false:=by kernel_rfl
theorem Qyu:Tryz.prog.eqGuardType Tryz.prog.depth 28=false:=by kernel_rfl
theorem Qyz (a b:Nj):EqS Tryz.prog 28 (List.toArray [(.int .i64 a.Kind),(.int .i64 a.A),(.int .i64 a.B)]) (List.toArray [(.int .i64 b.Kind),(.int .i64 b.A),(.int .i64 b.B)]) (decide (a=b)):=by
  refine ⟨fun c hc=>by
    simp at hc
    repeat' (rcases hc with rfl | hc)
    all_goals simp_all [Qeo],fun w=>?_⟩
  have u3:=Tryz.underlying3
  have a3:=Tryz.isAgg3
  have z3:=Tryz.sizeOf3
  have hS:Tryz.prog.underlying 28=some (.struct (Tryz.prog.fieldsOf 28)):=by kernel_rfl
  have hp:Tryz.prog.stoodInHeld 28=false:=by kernel_rfl
  rw [run_equalIn_agg w 9999 28 _ _ hS hp]
  simp only [Program.fieldsOf,Tryz.underlying28]
  go_simp
  cases a;cases b;simp only [Nj.mk.injEq]
  repeat' split
  all_goals simp_all [QJw]
theorem QLj:Tryz.prog.eqGuardType Tryz.prog.depth 63=false:=by kernel_rfl
theorem QLq (a b:Nw):EqS Tryz.prog 63 (List.toArray [(.int .i64 a.e0),(.int .i64 a.e1),(.int .i64 a.e2),(.int .i64 a.e3),(.int .i64 a.e4)]) (List.toArray [(.int .i64 b.e0),(.int .i64 b.e1),(.int .i64 b.e2),(.int .i64 b.e3),(.int .i64 b.e4)]) (decide (a=b)):=by
  refine ⟨by intro c hc;simp at hc;(repeat' (rcases hc with rfl | hc));all_goals (first | rfl | (subst hc;rfl) | simp_all [Qeo]),fun w=>?_⟩
  have u3:=Tryz.underlying3
  have a3:=Tryz.isAgg3
  have z3:=Tryz.sizeOf3
  rw [Op.equalIn]
  simp only [Sem.run_bind,run_underlying Tryz.underlying63,Result.andThen_ok]
  simp only [Std.Legacy.Range.forIn_eq_forIn_range',Std.Legacy.Range.size,Nat.sub_zero,Nat.add_sub_cancel,Nat.div_one,List.range'_succ,List.range'_zero,List.forIn_cons,List.forIn_nil]
  go_simp
  cases a;cases b;simp only [Nw.mk.injEq]
  repeat' split
  all_goals simp_all
theorem QNe:Tryz.f187.body.isNone=true:=by kernel_rfl
theorem QNp:Extern.findNext Tryz.f187=none:=by kernel_rfl
theorem QNg:Extern.find Tryz.f187=some Extern.BytealgCount.count:=by kernel_rfl
theorem QNf:Tryz.f226.body.isNone=true:=by kernel_rfl
theorem QNq:Extern.findNext Tryz.f226=none:=by kernel_rfl
theorem QNh:Extern.find Tryz.f226=some Extern.BytealgIndexByte.indexByte:=by kernel_rfl
theorem ert:ErT Tryz.prog 248:=⟨Tryz.underlying248,_,rfl,by kernel_rfl⟩
theorem Xu:Tryz.prog.follows .mixedOrders=true:=by kernel_rfl
end Go.Gw
