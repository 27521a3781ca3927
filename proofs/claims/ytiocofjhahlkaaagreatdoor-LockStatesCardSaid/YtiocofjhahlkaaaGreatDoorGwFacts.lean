/- Facts of the types of the program. No condition. -/
import Derived.Test.YtiocofjhahlkaaaGreatDoorGwSt
import Derived.Test.YtiocofjhahlkaaaGreatDoorGwLib5
import Derived.Laws.StructEq
import Derived.Test.YtiocofjhahlkaaaGreatDoorProg
set_option linter.unusedVariables false
set_option linter.unusedSimpArgs false
set_option linter.unusedSectionVars false
set_option maxRecDepth 100000
namespace Go.Gw
open Go Go.Proofs
abbrev numgo : String := "runtime.NumGoroutine"
theorem QR:Xk Tryz.prog 3 1:=Yg (by kernel_rfl)
theorem sz5:Xk Tryz.prog 5 1:=Yg (by kernel_rfl)
theorem YE:Xk Tryz.prog 9 1:=Yg (by kernel_rfl)
theorem X7:Xk Tryz.prog 22 1:=Yg (by kernel_rfl)
theorem YA:Xk Tryz.prog 23 1:=Yg (by kernel_rfl)
theorem YJ:Xk Tryz.prog 24 1:=Yg (by kernel_rfl)
theorem YK:Xk Tryz.prog 26 4:=Yg (by kernel_rfl)
theorem Xa:Xk Tryz.prog 27 1:=Yg (by kernel_rfl)
theorem Yd:Xk Tryz.prog 28 1:=Yg (by kernel_rfl)
theorem Yb:Xk Tryz.prog 30 3:=Yg (by kernel_rfl)
theorem QOy:Xk Tryz.prog 34 1:=Yg (by kernel_rfl)
theorem Qax:Xk Tryz.prog 45 2:=Yg (by kernel_rfl)
theorem YT:Xk Tryz.prog 55 2:=Yg (by kernel_rfl)
theorem Qkx:Xk Tryz.prog 66 5:=Yg (by kernel_rfl)
theorem Qky:Xk Tryz.prog 70 3:=Yg (by kernel_rfl)
theorem Zo:Xk Tryz.prog 74 2:=Yg (by kernel_rfl)
theorem YU:Xk Tryz.prog 76 3:=Yg (by kernel_rfl)
theorem Qxi:Xk Tryz.prog 80 1:=Yg (by kernel_rfl)
theorem Yt:Xk Tryz.prog 84 2:=Yg (by kernel_rfl)
theorem Qgl:Xk Tryz.prog 108 1:=Yg (by kernel_rfl)
theorem Qag:Xk Tryz.prog 109 1:=Yg (by kernel_rfl)
theorem QOw:Xk Tryz.prog 140 1:=Yg (by kernel_rfl)
theorem QOx:Xk Tryz.prog 143 1:=Yg (by kernel_rfl)
theorem Qxg:Xk Tryz.prog 155 1:=Yg (by kernel_rfl)
theorem Qxh:Xk Tryz.prog 158 4:=Yg (by kernel_rfl)
theorem Qgm:Xk Tryz.prog 162 1:=Yg (by kernel_rfl)
theorem QZ:YG Tryz.prog 3:=⟨_,Tryz.underlying3,trivial⟩
theorem sc5:YG Tryz.prog 5:=⟨_,Tryz.underlying5,trivial⟩
theorem YY:YG Tryz.prog 9:=⟨_,Tryz.underlying9,trivial⟩
theorem X6:YG Tryz.prog 22:=⟨_,Tryz.underlying22,trivial⟩
theorem Yy:YG Tryz.prog 23:=⟨_,Tryz.underlying23,trivial⟩
theorem YR:YG Tryz.prog 24:=⟨_,Tryz.underlying24,trivial⟩
theorem Xc:YG Tryz.prog 27:=⟨_,Tryz.underlying27,trivial⟩
theorem Yz:YG Tryz.prog 28:=⟨_,Tryz.underlying28,trivial⟩
theorem QMv:YG Tryz.prog 34:=⟨_,Tryz.underlying34,trivial⟩
theorem Qgc:YG Tryz.prog 80:=⟨_,Tryz.underlying80,trivial⟩
theorem Qfz:YG Tryz.prog 108:=⟨_,Tryz.underlying108,trivial⟩
theorem Qga:YG Tryz.prog 109:=⟨_,Tryz.underlying109,trivial⟩
theorem QMt:YG Tryz.prog 140:=⟨_,Tryz.underlying140,trivial⟩
theorem QMu:YG Tryz.prog 143:=⟨_,Tryz.underlying143,trivial⟩
theorem Qgb:YG Tryz.prog 155:=⟨_,Tryz.underlying155,trivial⟩
theorem Qkq:YG Tryz.prog 162:=⟨_,Tryz.underlying162,trivial⟩
theorem X8:Aggr Tryz.prog 26 4:=JT (by trivial) Tryz.underlying26 (by kernel_rfl)
theorem YD:Aggr Tryz.prog 30 3:=JT (by trivial) Tryz.underlying30 (by kernel_rfl)
theorem Qhe:Aggr Tryz.prog 45 2:=JT (by trivial) Tryz.underlying45 (by kernel_rfl)
theorem Qbm:Aggr Tryz.prog 55 2:=JT (by trivial) Tryz.underlying55 (by kernel_rfl)
theorem Qef:Aggr Tryz.prog 66 5:=JT (by trivial) Tryz.underlying66 (by kernel_rfl)
theorem Qco:Aggr Tryz.prog 70 3:=JT (by trivial) Tryz.underlying70 (by kernel_rfl)
theorem Qcp:Aggr Tryz.prog 74 2:=JT (by trivial) Tryz.underlying74 (by kernel_rfl)
theorem Jq:Aggr Tryz.prog 76 3:=JT (by trivial) Tryz.underlying76 (by kernel_rfl)
theorem Ys:Aggr Tryz.prog 84 2:=JT (by trivial) Tryz.underlying84 (by kernel_rfl)
theorem Qzd:Aggr Tryz.prog 158 4:=JT (by trivial) Tryz.underlying158 (by kernel_rfl)
theorem YB:EInfo Tryz.prog 3 1 8 (.int .i64 0):=Ju (by kernel_rfl) rfl (by decide)
theorem ZW:EInfo Tryz.prog 9 1 16 (.string ByteArray.empty):=Ju (by kernel_rfl) rfl (by decide)
theorem QBi:EInfo Tryz.prog 27 1 24 (.slice none 0 0):=Ju (by kernel_rfl) rfl (by decide)
theorem ZA:EInfo Tryz.prog 34 1 8 (.int .i64 0):=Ju (by kernel_rfl) rfl (by decide)
theorem Qse:EInfo Tryz.prog 45 2 16 (.agg (List.toArray [(.int .i64 0),(.int .i64 0)])):=Ju (by kernel_rfl) rfl (by decide)
theorem JY:EInfo Tryz.prog 55 2 32 (.agg (List.toArray [(.slice none 0 0),(.int .i64 0)])):=Ju (by kernel_rfl) rfl (by decide)
theorem QBj:EInfo Tryz.prog 70 3 24 (.agg (List.toArray [(.int .i64 0),(.int .i64 0),(.int .i64 0)])):=Ju (by kernel_rfl) rfl (by decide)
theorem YI:EInfo Tryz.prog 74 2 24 (.agg (List.toArray [(.string ByteArray.empty),(.int .i64 0)])):=Ju (by kernel_rfl) rfl (by decide)
theorem Qmv:EInfo Tryz.prog 76 3 64 (.agg (List.toArray [(.string ByteArray.empty),(.slice none 0 0),(.slice none 0 0)])):=Ju (by kernel_rfl) rfl (by decide)
theorem Qmu:EInfo Tryz.prog 140 1 8 (.pointer none):=Ju (by kernel_rfl) rfl (by decide)
theorem QBh:EInfo Tryz.prog 155 1 24 (.slice none 0 0):=Ju (by kernel_rfl) rfl (by decide)
theorem Qsd:EInfo Tryz.prog 158 4 32 (.agg (List.toArray [(.int .i64 0),(.int .i64 0),(.int .i64 0),(.pointer none)])):=Ju (by kernel_rfl) rfl (by decide)
theorem Zt:BI Tryz.prog 26 [(0,1),(1,1),(2,1),(3,1)] [(.slice none 0 0),(.slice none 0 0),(.slice none 0 0),(.slice none 0 0)]:=JG Tryz.underlying26 (by kernel_rfl) (by kernel_rfl)
theorem Js:BI Tryz.prog 30 [(0,1),(1,1),(2,1)] [(.slice none 0 0),(.slice none 0 0),(.int .i64 0)]:=JG Tryz.underlying30 (by kernel_rfl) (by kernel_rfl)
theorem Qml:BI Tryz.prog 55 [(0,1),(1,1)] [(.slice none 0 0),(.int .i64 0)]:=JG Tryz.underlying55 (by kernel_rfl) (by kernel_rfl)
theorem Qhh:BI Tryz.prog 70 [(0,1),(1,1),(2,1)] [(.int .i64 0),(.int .i64 0),(.int .i64 0)]:=JG Tryz.underlying70 (by kernel_rfl) (by kernel_rfl)
theorem Qzs:BI Tryz.prog 74 [(0,1),(1,1)] [(.string ByteArray.empty),(.int .i64 0)]:=JG Tryz.underlying74 (by kernel_rfl) (by kernel_rfl)
theorem Qhi:BI Tryz.prog 76 [(0,1),(1,1),(2,1)] [(.string ByteArray.empty),(.slice none 0 0),(.slice none 0 0)]:=JG Tryz.underlying76 (by kernel_rfl) (by kernel_rfl)
theorem Je:BI Tryz.prog 84 [(0,1),(1,1)] [(.int .i64 0),(.int .i64 0)]:=JG Tryz.underlying84 (by kernel_rfl) (by kernel_rfl)
theorem Qej:BI Tryz.prog 97 [(0,4),(4,3)] [(.slice none 0 0),(.slice none 0 0),(.slice none 0 0),(.slice none 0 0),(.slice none 0 0),(.slice none 0 0),(.int .i64 0)]:=JG Tryz.underlying97 (by kernel_rfl) (by kernel_rfl)
theorem Qzq:BI Tryz.prog 111 [(0,1),(1,1)] [(.map none),(.slice none 0 0)]:=JG Tryz.underlying111 (by kernel_rfl) (by kernel_rfl)
theorem Qrp:BI Tryz.prog 142 [(0,1),(1,1),(2,3)] [(.pointer none),(.pointer none),(.int .i64 0),(.int .i64 0),(.int .i64 0)]:=JG Tryz.underlying142 (by kernel_rfl) (by kernel_rfl)
theorem Qzr:BI Tryz.prog 158 [(0,3),(3,1)] [(.int .i64 0),(.int .i64 0),(.int .i64 0),(.pointer none)]:=JG Tryz.underlying158 (by kernel_rfl) (by kernel_rfl)
theorem Ja:ZI Tryz.prog 26 [(.slice none 0 0),(.slice none 0 0),(.slice none 0 0),(.slice none 0 0)]:=Zw (by kernel_rfl)
theorem JE:ZI Tryz.prog 30 [(.slice none 0 0),(.slice none 0 0),(.int .i64 0)]:=Zw (by kernel_rfl)
theorem QSg:ZI Tryz.prog 45 [(.int .i64 0),(.int .i64 0)]:=Zw (by kernel_rfl)
theorem Qdy:ZI Tryz.prog 55 [(.slice none 0 0),(.int .i64 0)]:=Zw (by kernel_rfl)
theorem Qdz:ZI Tryz.prog 66 [(.int .i64 0),(.int .i64 0),(.int .i64 0),(.int .i64 0),(.int .i64 0)]:=Zw (by kernel_rfl)
theorem Qyn:ZI Tryz.prog 70 [(.int .i64 0),(.int .i64 0),(.int .i64 0)]:=Zw (by kernel_rfl)
theorem Qlq:ZI Tryz.prog 74 [(.string ByteArray.empty),(.int .i64 0)]:=Zw (by kernel_rfl)
theorem Qaj:ZI Tryz.prog 76 [(.string ByteArray.empty),(.slice none 0 0),(.slice none 0 0)]:=Zw (by kernel_rfl)
theorem ZJ:ZI Tryz.prog 84 [(.int .i64 0),(.int .i64 0)]:=Zw (by kernel_rfl)
theorem Qym:ZI Tryz.prog 115 [(.pointer none),(.slice none 0 0)]:=Zw (by kernel_rfl)
theorem QSa:ZI Tryz.prog 143 [(.slice none 0 0)]:=Zw (by kernel_rfl)
theorem QSb:ZI Tryz.prog 155 [(.slice none 0 0)]:=Zw (by kernel_rfl)
theorem QSc:ZI Tryz.prog 158 [(.int .i64 0),(.int .i64 0),(.int .i64 0),(.pointer none)]:=Zw (by kernel_rfl)
theorem QSd:ZI Tryz.prog 167 [.nilFunc,.nilFunc,.nilFunc,.nilFunc]:=Zw (by kernel_rfl)
theorem nm5:(Tryz.f5.name == numgo)=false:=by kernel_rfl
theorem nm6:(Tryz.f6.name == numgo)=false:=by kernel_rfl
theorem nm7:(Tryz.f7.name == numgo)=false:=by kernel_rfl
theorem nm8:(Tryz.f8.name == numgo)=false:=by kernel_rfl
theorem nm9:(Tryz.f9.name == numgo)=false:=by kernel_rfl
theorem QHe:(Tryz.f10.name == numgo)=false:=by kernel_rfl
theorem QHo:(Tryz.f11.name == numgo)=false:=by kernel_rfl
theorem QHr:(Tryz.f12.name == numgo)=false:=by kernel_rfl
theorem Quj:(Tryz.f13.name == numgo)=false:=by kernel_rfl
theorem QHw:(Tryz.f14.name == numgo)=false:=by kernel_rfl
theorem QIa:(Tryz.f15.name == numgo)=false:=by kernel_rfl
theorem Quk:(Tryz.f20.name == numgo)=false:=by kernel_rfl
theorem QIe:(Tryz.f22.name == numgo)=false:=by kernel_rfl
theorem QIf:(Tryz.f25.name == numgo)=false:=by kernel_rfl
theorem Qul:(Tryz.f26.name == numgo)=false:=by kernel_rfl
theorem QIg:(Tryz.f27.name == numgo)=false:=by kernel_rfl
theorem QIh:(Tryz.f28.name == numgo)=false:=by kernel_rfl
theorem QIi:(Tryz.f29.name == numgo)=false:=by kernel_rfl
theorem QIj:(Tryz.f30.name == numgo)=false:=by kernel_rfl
theorem Qor:(Tryz.f31.name == numgo)=false:=by kernel_rfl
theorem Qfh:(Tryz.f32.name == numgo)=false:=by kernel_rfl
theorem Qos:(Tryz.f33.name == numgo)=false:=by kernel_rfl
theorem ZD:(Tryz.f34.name == numgo)=false:=by kernel_rfl
theorem Qfi:(Tryz.f35.name == numgo)=false:=by kernel_rfl
theorem QIk:(Tryz.f36.name == numgo)=false:=by kernel_rfl
theorem QIl:(Tryz.f37.name == numgo)=false:=by kernel_rfl
theorem Qbx:(Tryz.f38.name == numgo)=false:=by kernel_rfl
theorem QIm:(Tryz.f39.name == numgo)=false:=by kernel_rfl
theorem Qot:(Tryz.f40.name == numgo)=false:=by kernel_rfl
theorem QIn:(Tryz.f41.name == numgo)=false:=by kernel_rfl
theorem ZE:(Tryz.f42.name == numgo)=false:=by kernel_rfl
theorem Qum:(Tryz.f43.name == numgo)=false:=by kernel_rfl
theorem QIo:(Tryz.f44.name == numgo)=false:=by kernel_rfl
theorem X5:(Tryz.f45.name == numgo)=false:=by kernel_rfl
theorem Qjh:(Tryz.f46.name == numgo)=false:=by kernel_rfl
theorem QIp:(Tryz.f47.name == numgo)=false:=by kernel_rfl
theorem Qou:(Tryz.f48.name == numgo)=false:=by kernel_rfl
theorem QIq:(Tryz.f49.name == numgo)=false:=by kernel_rfl
theorem Qby:(Tryz.f50.name == numgo)=false:=by kernel_rfl
theorem QIr:(Tryz.f51.name == numgo)=false:=by kernel_rfl
theorem QIs:(Tryz.f52.name == numgo)=false:=by kernel_rfl
theorem QIt:(Tryz.f53.name == numgo)=false:=by kernel_rfl
theorem QIu:(Tryz.f54.name == numgo)=false:=by kernel_rfl
theorem Qun:(Tryz.f55.name == numgo)=false:=by kernel_rfl
theorem QIv:(Tryz.f56.name == numgo)=false:=by kernel_rfl
theorem Quo:(Tryz.f57.name == numgo)=false:=by kernel_rfl
theorem Qji:(Tryz.f58.name == numgo)=false:=by kernel_rfl
theorem QIw:(Tryz.f59.name == numgo)=false:=by kernel_rfl
theorem QIx:(Tryz.f60.name == numgo)=false:=by kernel_rfl
theorem QIy:(Tryz.f61.name == numgo)=false:=by kernel_rfl
theorem Qbz:(Tryz.f62.name == numgo)=false:=by kernel_rfl
theorem Qdg:(Tryz.f63.name == numgo)=false:=by kernel_rfl
theorem Qov:(Tryz.f64.name == numgo)=false:=by kernel_rfl
theorem Qup:(Tryz.f65.name == numgo)=false:=by kernel_rfl
theorem QIz:(Tryz.f66.name == numgo)=false:=by kernel_rfl
theorem QJa:(Tryz.f67.name == numgo)=false:=by kernel_rfl
theorem Qow:(Tryz.f68.name == numgo)=false:=by kernel_rfl
theorem QJb:(Tryz.f69.name == numgo)=false:=by kernel_rfl
theorem Quq:(Tryz.f70.name == numgo)=false:=by kernel_rfl
theorem QJc:(Tryz.f71.name == numgo)=false:=by kernel_rfl
theorem QJd:(Tryz.f72.name == numgo)=false:=by kernel_rfl
theorem Qad:(Tryz.f73.name == numgo)=false:=by kernel_rfl
theorem QJe:(Tryz.f74.name == numgo)=false:=by kernel_rfl
theorem QJf:(Tryz.f75.name == numgo)=false:=by kernel_rfl
theorem QJg:(Tryz.f76.name == numgo)=false:=by kernel_rfl
theorem Qox:(Tryz.f77.name == numgo)=false:=by kernel_rfl
theorem Qur:(Tryz.f78.name == numgo)=false:=by kernel_rfl
theorem QJh:(Tryz.f79.name == numgo)=false:=by kernel_rfl
theorem QJi:(Tryz.f80.name == numgo)=false:=by kernel_rfl
theorem QJj:(Tryz.f81.name == numgo)=false:=by kernel_rfl
theorem Qjj:(Tryz.f82.name == numgo)=false:=by kernel_rfl
theorem Qdh:(Tryz.f83.name == numgo)=false:=by kernel_rfl
theorem Qus:(Tryz.f84.name == numgo)=false:=by kernel_rfl
theorem QJk:(Tryz.f85.name == numgo)=false:=by kernel_rfl
theorem QJl:(Tryz.f92.name == numgo)=false:=by kernel_rfl
theorem QJm:(Tryz.f93.name == numgo)=false:=by kernel_rfl
theorem QJn:(Tryz.f94.name == numgo)=false:=by kernel_rfl
theorem Qut:(Tryz.f95.name == numgo)=false:=by kernel_rfl
theorem QJo:(Tryz.f96.name == numgo)=false:=by kernel_rfl
theorem QJp:(Tryz.f97.name == numgo)=false:=by kernel_rfl
theorem QJq:(Tryz.f98.name == numgo)=false:=by kernel_rfl
theorem QJr:(Tryz.f99.name == numgo)=false:=by kernel_rfl
theorem QHf:(Tryz.f100.name == numgo)=false:=by kernel_rfl
theorem QHg:(Tryz.f101.name == numgo)=false:=by kernel_rfl
theorem QHh:(Tryz.f102.name == numgo)=false:=by kernel_rfl
theorem QHi:(Tryz.f103.name == numgo)=false:=by kernel_rfl
theorem QHj:(Tryz.f104.name == numgo)=false:=by kernel_rfl
theorem QHk:(Tryz.f105.name == numgo)=false:=by kernel_rfl
theorem QHl:(Tryz.f106.name == numgo)=false:=by kernel_rfl
theorem QHm:(Tryz.f107.name == numgo)=false:=by kernel_rfl
theorem QHn:(Tryz.f108.name == numgo)=false:=by kernel_rfl
theorem Qop:(Tryz.f109.name == numgo)=false:=by kernel_rfl
theorem QHp:(Tryz.f110.name == numgo)=false:=by kernel_rfl
theorem QHq:(Tryz.f111.name == numgo)=false:=by kernel_rfl
theorem QHs:(Tryz.f120.name == numgo)=false:=by kernel_rfl
theorem Qui:(Tryz.f121.name == numgo)=false:=by kernel_rfl
theorem QHt:(Tryz.f122.name == numgo)=false:=by kernel_rfl
theorem QHu:(Tryz.f123.name == numgo)=false:=by kernel_rfl
theorem QHv:(Tryz.f137.name == numgo)=false:=by kernel_rfl
theorem QHx:(Tryz.f144.name == numgo)=false:=by kernel_rfl
theorem Qoq:(Tryz.f146.name == numgo)=false:=by kernel_rfl
theorem QHy:(Tryz.f147.name == numgo)=false:=by kernel_rfl
theorem QHz:(Tryz.f148.name == numgo)=false:=by kernel_rfl
theorem QIb:(Tryz.f158.name == numgo)=false:=by kernel_rfl
theorem QIc:(Tryz.f160.name == numgo)=false:=by kernel_rfl
theorem QId:(Tryz.f165.name == numgo)=false:=by kernel_rfl
theorem QBg:Tryz.prog.eqGuardType Tryz.prog.depth 66=false:=by kernel_rfl
theorem QBn (a b:Arr5_Int):EqS Tryz.prog 66 (List.toArray [(.int .i64 a.e0),(.int .i64 a.e1),(.int .i64 a.e2),(.int .i64 a.e3),(.int .i64 a.e4)]) (List.toArray [(.int .i64 b.e0),(.int .i64 b.e1),(.int .i64 b.e2),(.int .i64 b.e3),(.int .i64 b.e4)]) (decide (a=b)):=by
  refine ⟨by intro c hc;simp at hc;(repeat' (rcases hc with rfl | hc));all_goals (first | rfl | (subst hc;rfl) | simp_all [Qcz]),fun w=>?_⟩
  have u3:=Tryz.underlying3
  have a3:=Tryz.isAgg3
  have z3:=Tryz.sizeOf3
  rw [Op.equalIn]
  simp only [Sem.run_bind,run_underlying Tryz.underlying66,Result.andThen_ok]
  simp only [Std.Legacy.Range.forIn_eq_forIn_range',Std.Legacy.Range.size,Nat.sub_zero,Nat.add_sub_cancel,Nat.div_one,List.range'_succ,List.range'_zero,List.forIn_cons,List.forIn_nil]
  go_simp
  cases a;cases b;simp only [Arr5_Int.mk.injEq]
  repeat' split
  all_goals simp_all
theorem XB:Tryz.prog.follows .mixedOrders=true:=by kernel_rfl
end Go.Gw
