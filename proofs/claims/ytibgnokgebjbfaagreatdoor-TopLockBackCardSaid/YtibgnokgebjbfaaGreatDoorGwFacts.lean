/- Facts of the types of the program. No condition. -/
import Derived.Test.YtibgnokgebjbfaaGreatDoorGwSt
import Derived.Test.YtibgnokgebjbfaaGreatDoorGwLib5
import Derived.Laws.StructEq
import Derived.Test.YtibgnokgebjbfaaGreatDoorProg
set_option linter.unusedVariables false
set_option linter.unusedSimpArgs false
set_option linter.unusedSectionVars false
set_option maxRecDepth 100000
namespace Go.Gw
open Go Go.Proofs
abbrev numgo : String := "runtime.NumGoroutine"
theorem QS:Xp Tryz.prog 3 1:=YD (by kernel_rfl)
theorem sz5:Xp Tryz.prog 5 1:=YD (by kernel_rfl)
theorem YW:Xp Tryz.prog 9 1:=YD (by kernel_rfl)
theorem Yc:Xp Tryz.prog 22 1:=YD (by kernel_rfl)
theorem YS:Xp Tryz.prog 23 1:=YD (by kernel_rfl)
theorem Y3:Xp Tryz.prog 24 1:=YD (by kernel_rfl)
theorem Y4:Xp Tryz.prog 26 4:=YD (by kernel_rfl)
theorem Xb:Xp Tryz.prog 30 1:=YD (by kernel_rfl)
theorem Yp:Xp Tryz.prog 31 1:=YD (by kernel_rfl)
theorem XH:Xp Tryz.prog 33 3:=YD (by kernel_rfl)
theorem QQe:Xp Tryz.prog 34 1:=YD (by kernel_rfl)
theorem Qat:Xp Tryz.prog 46 3:=YD (by kernel_rfl)
theorem Y8:Xp Tryz.prog 56 3:=YD (by kernel_rfl)
theorem Zz:Xp Tryz.prog 71 2:=YD (by kernel_rfl)
theorem Qyz:Xp Tryz.prog 75 1:=YD (by kernel_rfl)
theorem YI:Xp Tryz.prog 86 2:=YD (by kernel_rfl)
theorem Zb:Xp Tryz.prog 91 2:=YD (by kernel_rfl)
theorem Qie:Xp Tryz.prog 110 1:=YD (by kernel_rfl)
theorem Qbo:Xp Tryz.prog 111 1:=YD (by kernel_rfl)
theorem Qyy:Xp Tryz.prog 136 1:=YD (by kernel_rfl)
theorem Qmj:Xp Tryz.prog 139 4:=YD (by kernel_rfl)
theorem QQc:Xp Tryz.prog 146 1:=YD (by kernel_rfl)
theorem QQd:Xp Tryz.prog 149 1:=YD (by kernel_rfl)
theorem Qif:Xp Tryz.prog 164 1:=YD (by kernel_rfl)
theorem QV:YY Tryz.prog 3:=⟨_,Tryz.underlying3,trivial⟩
theorem sc5:YY Tryz.prog 5:=⟨_,Tryz.underlying5,trivial⟩
theorem Ze:YY Tryz.prog 9:=⟨_,Tryz.underlying9,trivial⟩
theorem Yb:YY Tryz.prog 22:=⟨_,Tryz.underlying22,trivial⟩
theorem YQ:YY Tryz.prog 23:=⟨_,Tryz.underlying23,trivial⟩
theorem YU:YY Tryz.prog 24:=⟨_,Tryz.underlying24,trivial⟩
theorem Xa:YY Tryz.prog 30:=⟨_,Tryz.underlying30,trivial⟩
theorem YR:YY Tryz.prog 31:=⟨_,Tryz.underlying31,trivial⟩
theorem QOi:YY Tryz.prog 34:=⟨_,Tryz.underlying34,trivial⟩
theorem Qhu:YY Tryz.prog 75:=⟨_,Tryz.underlying75,trivial⟩
theorem Qhr:YY Tryz.prog 110:=⟨_,Tryz.underlying110,trivial⟩
theorem Qhs:YY Tryz.prog 111:=⟨_,Tryz.underlying111,trivial⟩
theorem Qht:YY Tryz.prog 136:=⟨_,Tryz.underlying136,trivial⟩
theorem QOg:YY Tryz.prog 146:=⟨_,Tryz.underlying146,trivial⟩
theorem QOh:YY Tryz.prog 149:=⟨_,Tryz.underlying149,trivial⟩
theorem Qmc:YY Tryz.prog 164:=⟨_,Tryz.underlying164,trivial⟩
theorem XZ:Aggr Tryz.prog 26 4:=Qbs (by trivial) Tryz.underlying26 (by kernel_rfl)
theorem Yk:Aggr Tryz.prog 33 3:=Qbs (by trivial) Tryz.underlying33 (by kernel_rfl)
theorem ZW:Aggr Tryz.prog 46 3:=Qbs (by trivial) Tryz.underlying46 (by kernel_rfl)
theorem Qah:Aggr Tryz.prog 56 3:=Qbs (by trivial) Tryz.underlying56 (by kernel_rfl)
theorem Qdv:Aggr Tryz.prog 71 2:=Qbs (by trivial) Tryz.underlying71 (by kernel_rfl)
theorem YE:Aggr Tryz.prog 86 2:=Qbs (by trivial) Tryz.underlying86 (by kernel_rfl)
theorem Qcu:Aggr Tryz.prog 91 2:=Qbs (by trivial) Tryz.underlying91 (by kernel_rfl)
theorem Qtd:Aggr Tryz.prog 139 4:=Qbs (by trivial) Tryz.underlying139 (by kernel_rfl)
theorem Y0:EInfo Tryz.prog 3 1 8 (.int .i64 0):=J3 (by kernel_rfl) rfl (by decide)
theorem Jc:EInfo Tryz.prog 9 1 16 (.string ByteArray.empty):=J3 (by kernel_rfl) rfl (by decide)
theorem QCw:EInfo Tryz.prog 30 1 24 (.slice none 0 0):=J3 (by kernel_rfl) rfl (by decide)
theorem ZZ:EInfo Tryz.prog 34 1 8 (.int .i64 0):=J3 (by kernel_rfl) rfl (by decide)
theorem Qog:EInfo Tryz.prog 46 3 24 (.agg (List.toArray [(.int .i64 0),(.int .i64 0),(.int .i64 0)])):=J3 (by kernel_rfl) rfl (by decide)
theorem Qoh:EInfo Tryz.prog 56 3 64 (.agg (List.toArray [(.string ByteArray.empty),(.slice none 0 0),(.slice none 0 0)])):=J3 (by kernel_rfl) rfl (by decide)
theorem Y1:EInfo Tryz.prog 71 2 24 (.agg (List.toArray [(.string ByteArray.empty),(.int .i64 0)])):=J3 (by kernel_rfl) rfl (by decide)
theorem Qbz:EInfo Tryz.prog 91 2 32 (.agg (List.toArray [(.slice none 0 0),(.int .i64 0)])):=J3 (by kernel_rfl) rfl (by decide)
theorem QCv:EInfo Tryz.prog 136 1 24 (.slice none 0 0):=J3 (by kernel_rfl) rfl (by decide)
theorem Quo:EInfo Tryz.prog 139 4 32 (.agg (List.toArray [(.int .i64 0),(.int .i64 0),(.int .i64 0),(.pointer none)])):=J3 (by kernel_rfl) rfl (by decide)
theorem Qof:EInfo Tryz.prog 146 1 8 (.pointer none):=J3 (by kernel_rfl) rfl (by decide)
theorem ZE:BI Tryz.prog 26 [(0,1),(1,1),(2,1),(3,1)] [(.slice none 0 0),(.slice none 0 0),(.slice none 0 0),(.slice none 0 0)]:=JZ Tryz.underlying26 (by kernel_rfl) (by kernel_rfl)
theorem Qaz:BI Tryz.prog 33 [(0,1),(1,1),(2,1)] [(.slice none 0 0),(.slice none 0 0),(.int .i64 0)]:=JZ Tryz.underlying33 (by kernel_rfl) (by kernel_rfl)
theorem Qiw:BI Tryz.prog 46 [(0,1),(1,1),(2,1)] [(.int .i64 0),(.int .i64 0),(.int .i64 0)]:=JZ Tryz.underlying46 (by kernel_rfl) (by kernel_rfl)
theorem Qix:BI Tryz.prog 56 [(0,1),(1,1),(2,1)] [(.string ByteArray.empty),(.slice none 0 0),(.slice none 0 0)]:=JZ Tryz.underlying56 (by kernel_rfl) (by kernel_rfl)
theorem QBh:BI Tryz.prog 71 [(0,1),(1,1)] [(.string ByteArray.empty),(.int .i64 0)]:=JZ Tryz.underlying71 (by kernel_rfl) (by kernel_rfl)
theorem Qfx:BI Tryz.prog 78 [(0,4),(4,3)] [(.slice none 0 0),(.slice none 0 0),(.slice none 0 0),(.slice none 0 0),(.slice none 0 0),(.slice none 0 0),(.int .i64 0)]:=JZ Tryz.underlying78 (by kernel_rfl) (by kernel_rfl)
theorem JB:BI Tryz.prog 86 [(0,1),(1,1)] [(.int .i64 0),(.int .i64 0)]:=JZ Tryz.underlying86 (by kernel_rfl) (by kernel_rfl)
theorem Qnw:BI Tryz.prog 91 [(0,1),(1,1)] [(.slice none 0 0),(.int .i64 0)]:=JZ Tryz.underlying91 (by kernel_rfl) (by kernel_rfl)
theorem QBf:BI Tryz.prog 113 [(0,1),(1,1)] [(.map none),(.slice none 0 0)]:=JZ Tryz.underlying113 (by kernel_rfl) (by kernel_rfl)
theorem QBg:BI Tryz.prog 139 [(0,3),(3,1)] [(.int .i64 0),(.int .i64 0),(.int .i64 0),(.pointer none)]:=JZ Tryz.underlying139 (by kernel_rfl) (by kernel_rfl)
theorem Qtw:BI Tryz.prog 148 [(0,1),(1,1),(2,3)] [(.pointer none),(.pointer none),(.int .i64 0),(.int .i64 0),(.int .i64 0)]:=JZ Tryz.underlying148 (by kernel_rfl) (by kernel_rfl)
theorem Jx:ZI Tryz.prog 26 [(.slice none 0 0),(.slice none 0 0),(.slice none 0 0),(.slice none 0 0)]:=Z9 (by kernel_rfl)
theorem Y5:ZI Tryz.prog 33 [(.slice none 0 0),(.slice none 0 0),(.int .i64 0)]:=Z9 (by kernel_rfl)
theorem Qsu:ZI Tryz.prog 46 [(.int .i64 0),(.int .i64 0),(.int .i64 0)]:=Z9 (by kernel_rfl)
theorem Qdt:ZI Tryz.prog 56 [(.string ByteArray.empty),(.slice none 0 0),(.slice none 0 0)]:=Z9 (by kernel_rfl)
theorem Qna:ZI Tryz.prog 71 [(.string ByteArray.empty),(.int .i64 0)]:=Z9 (by kernel_rfl)
theorem ZU:ZI Tryz.prog 86 [(.int .i64 0),(.int .i64 0)]:=Z9 (by kernel_rfl)
theorem Qfm:ZI Tryz.prog 91 [(.slice none 0 0),(.int .i64 0)]:=Z9 (by kernel_rfl)
theorem QAc:ZI Tryz.prog 117 [(.pointer none),(.slice none 0 0)]:=Z9 (by kernel_rfl)
theorem QTb:ZI Tryz.prog 136 [(.slice none 0 0)]:=Z9 (by kernel_rfl)
theorem QAd:ZI Tryz.prog 139 [(.int .i64 0),(.int .i64 0),(.int .i64 0),(.pointer none)]:=Z9 (by kernel_rfl)
theorem QTc:ZI Tryz.prog 149 [(.slice none 0 0)]:=Z9 (by kernel_rfl)
theorem QTd:ZI Tryz.prog 169 [.nilFunc,.nilFunc,.nilFunc,.nilFunc]:=Z9 (by kernel_rfl)
theorem nm7:(Tryz.f7.name == numgo)=false:=by kernel_rfl
theorem nm8:(Tryz.f8.name == numgo)=false:=by kernel_rfl
theorem nm9:(Tryz.f9.name == numgo)=false:=by kernel_rfl
theorem QJi:(Tryz.f11.name == numgo)=false:=by kernel_rfl
theorem QJq:(Tryz.f12.name == numgo)=false:=by kernel_rfl
theorem Z4:(Tryz.f14.name == numgo)=false:=by kernel_rfl
theorem QJs:(Tryz.f15.name == numgo)=false:=by kernel_rfl
theorem QJx:(Tryz.f17.name == numgo)=false:=by kernel_rfl
theorem Qan:(Tryz.f19.name == numgo)=false:=by kernel_rfl
theorem Qqh:(Tryz.f20.name == numgo)=false:=by kernel_rfl
theorem QJz:(Tryz.f21.name == numgo)=false:=by kernel_rfl
theorem QKa:(Tryz.f22.name == numgo)=false:=by kernel_rfl
theorem QKb:(Tryz.f23.name == numgo)=false:=by kernel_rfl
theorem QKc:(Tryz.f25.name == numgo)=false:=by kernel_rfl
theorem QKd:(Tryz.f26.name == numgo)=false:=by kernel_rfl
theorem QKe:(Tryz.f28.name == numgo)=false:=by kernel_rfl
theorem Qqi:(Tryz.f29.name == numgo)=false:=by kernel_rfl
theorem Z5:(Tryz.f30.name == numgo)=false:=by kernel_rfl
theorem Qqj:(Tryz.f31.name == numgo)=false:=by kernel_rfl
theorem Yi:(Tryz.f32.name == numgo)=false:=by kernel_rfl
theorem Qwg:(Tryz.f33.name == numgo)=false:=by kernel_rfl
theorem Qwh:(Tryz.f34.name == numgo)=false:=by kernel_rfl
theorem Qqk:(Tryz.f35.name == numgo)=false:=by kernel_rfl
theorem Qwi:(Tryz.f36.name == numgo)=false:=by kernel_rfl
theorem ZS:(Tryz.f37.name == numgo)=false:=by kernel_rfl
theorem Qha:(Tryz.f38.name == numgo)=false:=by kernel_rfl
theorem QKf:(Tryz.f39.name == numgo)=false:=by kernel_rfl
theorem Qwj:(Tryz.f40.name == numgo)=false:=by kernel_rfl
theorem Qwk:(Tryz.f43.name == numgo)=false:=by kernel_rfl
theorem JX:(Tryz.f44.name == numgo)=false:=by kernel_rfl
theorem QKg:(Tryz.f45.name == numgo)=false:=by kernel_rfl
theorem Qwl:(Tryz.f46.name == numgo)=false:=by kernel_rfl
theorem Qku:(Tryz.f47.name == numgo)=false:=by kernel_rfl
theorem QKh:(Tryz.f48.name == numgo)=false:=by kernel_rfl
theorem QKi:(Tryz.f49.name == numgo)=false:=by kernel_rfl
theorem QKj:(Tryz.f50.name == numgo)=false:=by kernel_rfl
theorem Qwm:(Tryz.f51.name == numgo)=false:=by kernel_rfl
theorem Qeq:(Tryz.f53.name == numgo)=false:=by kernel_rfl
theorem QKk:(Tryz.f57.name == numgo)=false:=by kernel_rfl
theorem QKl:(Tryz.f58.name == numgo)=false:=by kernel_rfl
theorem QKm:(Tryz.f60.name == numgo)=false:=by kernel_rfl
theorem QKn:(Tryz.f61.name == numgo)=false:=by kernel_rfl
theorem Qdg:(Tryz.f62.name == numgo)=false:=by kernel_rfl
theorem Qer:(Tryz.f63.name == numgo)=false:=by kernel_rfl
theorem Qql:(Tryz.f64.name == numgo)=false:=by kernel_rfl
theorem Qwn:(Tryz.f65.name == numgo)=false:=by kernel_rfl
theorem QKo:(Tryz.f66.name == numgo)=false:=by kernel_rfl
theorem Qbi:(Tryz.f67.name == numgo)=false:=by kernel_rfl
theorem Qqm:(Tryz.f68.name == numgo)=false:=by kernel_rfl
theorem Qwo:(Tryz.f69.name == numgo)=false:=by kernel_rfl
theorem QKp:(Tryz.f70.name == numgo)=false:=by kernel_rfl
theorem Qkv:(Tryz.f71.name == numgo)=false:=by kernel_rfl
theorem Qes:(Tryz.f72.name == numgo)=false:=by kernel_rfl
theorem Qwp:(Tryz.f73.name == numgo)=false:=by kernel_rfl
theorem QKq:(Tryz.f74.name == numgo)=false:=by kernel_rfl
theorem Qwq:(Tryz.f75.name == numgo)=false:=by kernel_rfl
theorem QKr:(Tryz.f76.name == numgo)=false:=by kernel_rfl
theorem QKs:(Tryz.f77.name == numgo)=false:=by kernel_rfl
theorem QKt:(Tryz.f79.name == numgo)=false:=by kernel_rfl
theorem QKu:(Tryz.f80.name == numgo)=false:=by kernel_rfl
theorem QKv:(Tryz.f81.name == numgo)=false:=by kernel_rfl
theorem QKw:(Tryz.f82.name == numgo)=false:=by kernel_rfl
theorem QKx:(Tryz.f83.name == numgo)=false:=by kernel_rfl
theorem Qwr:(Tryz.f84.name == numgo)=false:=by kernel_rfl
theorem Qws:(Tryz.f85.name == numgo)=false:=by kernel_rfl
theorem QKy:(Tryz.f94.name == numgo)=false:=by kernel_rfl
theorem QKz:(Tryz.f95.name == numgo)=false:=by kernel_rfl
theorem QLa:(Tryz.f96.name == numgo)=false:=by kernel_rfl
theorem Qwt:(Tryz.f97.name == numgo)=false:=by kernel_rfl
theorem QLb:(Tryz.f98.name == numgo)=false:=by kernel_rfl
theorem QLc:(Tryz.f99.name == numgo)=false:=by kernel_rfl
theorem QIy:(Tryz.f100.name == numgo)=false:=by kernel_rfl
theorem QIz:(Tryz.f101.name == numgo)=false:=by kernel_rfl
theorem QJa:(Tryz.f102.name == numgo)=false:=by kernel_rfl
theorem QJb:(Tryz.f103.name == numgo)=false:=by kernel_rfl
theorem QJc:(Tryz.f104.name == numgo)=false:=by kernel_rfl
theorem QJd:(Tryz.f105.name == numgo)=false:=by kernel_rfl
theorem QJe:(Tryz.f106.name == numgo)=false:=by kernel_rfl
theorem QJf:(Tryz.f107.name == numgo)=false:=by kernel_rfl
theorem QJg:(Tryz.f108.name == numgo)=false:=by kernel_rfl
theorem QJh:(Tryz.f109.name == numgo)=false:=by kernel_rfl
theorem QJj:(Tryz.f110.name == numgo)=false:=by kernel_rfl
theorem QJk:(Tryz.f111.name == numgo)=false:=by kernel_rfl
theorem Qqf:(Tryz.f112.name == numgo)=false:=by kernel_rfl
theorem QJl:(Tryz.f113.name == numgo)=false:=by kernel_rfl
theorem QJm:(Tryz.f115.name == numgo)=false:=by kernel_rfl
theorem QJn:(Tryz.f116.name == numgo)=false:=by kernel_rfl
theorem QJo:(Tryz.f117.name == numgo)=false:=by kernel_rfl
theorem QJp:(Tryz.f118.name == numgo)=false:=by kernel_rfl
theorem QJr:(Tryz.f149.name == numgo)=false:=by kernel_rfl
theorem Qqg:(Tryz.f151.name == numgo)=false:=by kernel_rfl
theorem QJt:(Tryz.f152.name == numgo)=false:=by kernel_rfl
theorem QJu:(Tryz.f153.name == numgo)=false:=by kernel_rfl
theorem QJv:(Tryz.f154.name == numgo)=false:=by kernel_rfl
theorem QJw:(Tryz.f165.name == numgo)=false:=by kernel_rfl
theorem QJy:(Tryz.f170.name == numgo)=false:=by kernel_rfl
theorem XJ:Tryz.prog.follows .mixedOrders=true:=by kernel_rfl
end Go.Gw
