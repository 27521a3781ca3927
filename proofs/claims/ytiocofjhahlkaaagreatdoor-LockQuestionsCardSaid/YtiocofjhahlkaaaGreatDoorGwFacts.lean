/- Facts of the types of the program. No condition. -/
import Derived.Test.YtiocofjhahlkaaaGreatDoorGwSt
import Derived.Test.YtiocofjhahlkaaaGreatDoorGwLib5
import Derived.Laws.StructEq
import Derived.Test.YtiocofjhahlkaaaGreatDoorProg
set_option linter.unusedVariables false
set_option linter.unusedSimpArgs false
set_option linter.unusedSectionVars false
set_option maxRecDepth 100000
namespace Go.Gw
open Go Go.Proofs
abbrev numgo : String := "runtime.NumGoroutine"
theorem QP:Xj Tryz.prog 3 1:=Yg (by kernel_rfl)
theorem sz5:Xj Tryz.prog 5 1:=Yg (by kernel_rfl)
theorem YF:Xj Tryz.prog 9 1:=Yg (by kernel_rfl)
theorem X3:Xj Tryz.prog 22 1:=Yg (by kernel_rfl)
theorem Yx:Xj Tryz.prog 23 1:=Yg (by kernel_rfl)
theorem YL:Xj Tryz.prog 24 1:=Yg (by kernel_rfl)
theorem YM:Xj Tryz.prog 26 4:=Yg (by kernel_rfl)
theorem Xb:Xj Tryz.prog 27 1:=Yg (by kernel_rfl)
theorem Yp:Xj Tryz.prog 28 1:=Yg (by kernel_rfl)
theorem Yq:Xj Tryz.prog 30 3:=Yg (by kernel_rfl)
theorem QPw:Xj Tryz.prog 34 1:=Yg (by kernel_rfl)
theorem Qbg:Xj Tryz.prog 45 2:=Yg (by kernel_rfl)
theorem Y2:Xj Tryz.prog 55 2:=Yg (by kernel_rfl)
theorem Qlk:Xj Tryz.prog 66 5:=Yg (by kernel_rfl)
theorem Qll:Xj Tryz.prog 70 3:=Yg (by kernel_rfl)
theorem Y6:Xj Tryz.prog 74 2:=Yg (by kernel_rfl)
theorem YV:Xj Tryz.prog 76 3:=Yg (by kernel_rfl)
theorem Qyh:Xj Tryz.prog 80 1:=Yg (by kernel_rfl)
theorem Yy:Xj Tryz.prog 84 2:=Yg (by kernel_rfl)
theorem Qgz:Xj Tryz.prog 108 1:=Yg (by kernel_rfl)
theorem Qaj:Xj Tryz.prog 109 1:=Yg (by kernel_rfl)
theorem QPu:Xj Tryz.prog 140 1:=Yg (by kernel_rfl)
theorem QPv:Xj Tryz.prog 143 1:=Yg (by kernel_rfl)
theorem Qyf:Xj Tryz.prog 155 1:=Yg (by kernel_rfl)
theorem Qyg:Xj Tryz.prog 158 4:=Yg (by kernel_rfl)
theorem Qha:Xj Tryz.prog 162 1:=Yg (by kernel_rfl)
theorem QZ:YG Tryz.prog 3:=⟨_,Tryz.underlying3,trivial⟩
theorem sc5:YG Tryz.prog 5:=⟨_,Tryz.underlying5,trivial⟩
theorem Y0:YG Tryz.prog 9:=⟨_,Tryz.underlying9,trivial⟩
theorem X2:YG Tryz.prog 22:=⟨_,Tryz.underlying22,trivial⟩
theorem Yw:YG Tryz.prog 23:=⟨_,Tryz.underlying23,trivial⟩
theorem YT:YG Tryz.prog 24:=⟨_,Tryz.underlying24,trivial⟩
theorem Xd:YG Tryz.prog 27:=⟨_,Tryz.underlying27,trivial⟩
theorem YK:YG Tryz.prog 28:=⟨_,Tryz.underlying28,trivial⟩
theorem QNw:YG Tryz.prog 34:=⟨_,Tryz.underlying34,trivial⟩
theorem Qgp:YG Tryz.prog 80:=⟨_,Tryz.underlying80,trivial⟩
theorem Qgm:YG Tryz.prog 108:=⟨_,Tryz.underlying108,trivial⟩
theorem Qgn:YG Tryz.prog 109:=⟨_,Tryz.underlying109,trivial⟩
theorem QNu:YG Tryz.prog 140:=⟨_,Tryz.underlying140,trivial⟩
theorem QNv:YG Tryz.prog 143:=⟨_,Tryz.underlying143,trivial⟩
theorem Qgo:YG Tryz.prog 155:=⟨_,Tryz.underlying155,trivial⟩
theorem Qlf:YG Tryz.prog 162:=⟨_,Tryz.underlying162,trivial⟩
theorem XR:Aggr Tryz.prog 26 4:=JV (by trivial) Tryz.underlying26 (by kernel_rfl)
theorem YC:Aggr Tryz.prog 30 3:=JV (by trivial) Tryz.underlying30 (by kernel_rfl)
theorem Qht:Aggr Tryz.prog 45 2:=JV (by trivial) Tryz.underlying45 (by kernel_rfl)
theorem Qbu:Aggr Tryz.prog 55 2:=JV (by trivial) Tryz.underlying55 (by kernel_rfl)
theorem Qep:Aggr Tryz.prog 66 5:=JV (by trivial) Tryz.underlying66 (by kernel_rfl)
theorem Qcx:Aggr Tryz.prog 70 3:=JV (by trivial) Tryz.underlying70 (by kernel_rfl)
theorem Qbv:Aggr Tryz.prog 74 2:=JV (by trivial) Tryz.underlying74 (by kernel_rfl)
theorem Jy:Aggr Tryz.prog 76 3:=JV (by trivial) Tryz.underlying76 (by kernel_rfl)
theorem Yt:Aggr Tryz.prog 84 2:=JV (by trivial) Tryz.underlying84 (by kernel_rfl)
theorem QAc:Aggr Tryz.prog 158 4:=JV (by trivial) Tryz.underlying158 (by kernel_rfl)
theorem Yu:EInfo Tryz.prog 3 1 8 (.int .i64 0):=JA (by kernel_rfl) rfl (by decide)
theorem ZY:EInfo Tryz.prog 9 1 16 (.string ByteArray.empty):=JA (by kernel_rfl) rfl (by decide)
theorem QCi:EInfo Tryz.prog 27 1 24 (.slice none 0 0):=JA (by kernel_rfl) rfl (by decide)
theorem Zn:EInfo Tryz.prog 34 1 8 (.int .i64 0):=JA (by kernel_rfl) rfl (by decide)
theorem Qtc:EInfo Tryz.prog 45 2 16 (.agg (List.toArray [(.int .i64 0),(.int .i64 0)])):=JA (by kernel_rfl) rfl (by decide)
theorem Qaz:EInfo Tryz.prog 55 2 32 (.agg (List.toArray [(.slice none 0 0),(.int .i64 0)])):=JA (by kernel_rfl) rfl (by decide)
theorem QCj:EInfo Tryz.prog 70 3 24 (.agg (List.toArray [(.int .i64 0),(.int .i64 0),(.int .i64 0)])):=JA (by kernel_rfl) rfl (by decide)
theorem YI:EInfo Tryz.prog 74 2 24 (.agg (List.toArray [(.string ByteArray.empty),(.int .i64 0)])):=JA (by kernel_rfl) rfl (by decide)
theorem Qnf:EInfo Tryz.prog 76 3 64 (.agg (List.toArray [(.string ByteArray.empty),(.slice none 0 0),(.slice none 0 0)])):=JA (by kernel_rfl) rfl (by decide)
theorem Qne:EInfo Tryz.prog 140 1 8 (.pointer none):=JA (by kernel_rfl) rfl (by decide)
theorem QCh:EInfo Tryz.prog 155 1 24 (.slice none 0 0):=JA (by kernel_rfl) rfl (by decide)
theorem Qtb:EInfo Tryz.prog 158 4 32 (.agg (List.toArray [(.int .i64 0),(.int .i64 0),(.int .i64 0),(.pointer none)])):=JA (by kernel_rfl) rfl (by decide)
theorem Zu:BI Tryz.prog 26 [(0,1),(1,1),(2,1),(3,1)] [(.slice none 0 0),(.slice none 0 0),(.slice none 0 0),(.slice none 0 0)]:=JJ Tryz.underlying26 (by kernel_rfl) (by kernel_rfl)
theorem Qaw:BI Tryz.prog 30 [(0,1),(1,1),(2,1)] [(.slice none 0 0),(.slice none 0 0),(.int .i64 0)]:=JJ Tryz.underlying30 (by kernel_rfl) (by kernel_rfl)
theorem Qmv:BI Tryz.prog 55 [(0,1),(1,1)] [(.slice none 0 0),(.int .i64 0)]:=JJ Tryz.underlying55 (by kernel_rfl) (by kernel_rfl)
theorem Qhy:BI Tryz.prog 70 [(0,1),(1,1),(2,1)] [(.int .i64 0),(.int .i64 0),(.int .i64 0)]:=JJ Tryz.underlying70 (by kernel_rfl) (by kernel_rfl)
theorem QAr:BI Tryz.prog 74 [(0,1),(1,1)] [(.string ByteArray.empty),(.int .i64 0)]:=JJ Tryz.underlying74 (by kernel_rfl) (by kernel_rfl)
theorem Qhz:BI Tryz.prog 76 [(0,1),(1,1),(2,1)] [(.string ByteArray.empty),(.slice none 0 0),(.slice none 0 0)]:=JJ Tryz.underlying76 (by kernel_rfl) (by kernel_rfl)
theorem Jl:BI Tryz.prog 84 [(0,1),(1,1)] [(.int .i64 0),(.int .i64 0)]:=JJ Tryz.underlying84 (by kernel_rfl) (by kernel_rfl)
theorem Qes:BI Tryz.prog 97 [(0,4),(4,3)] [(.slice none 0 0),(.slice none 0 0),(.slice none 0 0),(.slice none 0 0),(.slice none 0 0),(.slice none 0 0),(.int .i64 0)]:=JJ Tryz.underlying97 (by kernel_rfl) (by kernel_rfl)
theorem QAp:BI Tryz.prog 111 [(0,1),(1,1)] [(.map none),(.slice none 0 0)]:=JJ Tryz.underlying111 (by kernel_rfl) (by kernel_rfl)
theorem Qsl:BI Tryz.prog 142 [(0,1),(1,1),(2,3)] [(.pointer none),(.pointer none),(.int .i64 0),(.int .i64 0),(.int .i64 0)]:=JJ Tryz.underlying142 (by kernel_rfl) (by kernel_rfl)
theorem QAq:BI Tryz.prog 158 [(0,3),(3,1)] [(.int .i64 0),(.int .i64 0),(.int .i64 0),(.pointer none)]:=JJ Tryz.underlying158 (by kernel_rfl) (by kernel_rfl)
theorem Jg:ZI Tryz.prog 26 [(.slice none 0 0),(.slice none 0 0),(.slice none 0 0),(.slice none 0 0)]:=ZB (by kernel_rfl)
theorem Qan:ZI Tryz.prog 30 [(.slice none 0 0),(.slice none 0 0),(.int .i64 0)]:=ZB (by kernel_rfl)
theorem QTb:ZI Tryz.prog 45 [(.int .i64 0),(.int .i64 0)]:=ZB (by kernel_rfl)
theorem Qei:ZI Tryz.prog 55 [(.slice none 0 0),(.int .i64 0)]:=ZB (by kernel_rfl)
theorem Qej:ZI Tryz.prog 66 [(.int .i64 0),(.int .i64 0),(.int .i64 0),(.int .i64 0),(.int .i64 0)]:=ZB (by kernel_rfl)
theorem Qzm:ZI Tryz.prog 70 [(.int .i64 0),(.int .i64 0),(.int .i64 0)]:=ZB (by kernel_rfl)
theorem Qhn:ZI Tryz.prog 74 [(.string ByteArray.empty),(.int .i64 0)]:=ZB (by kernel_rfl)
theorem Qao:ZI Tryz.prog 76 [(.string ByteArray.empty),(.slice none 0 0),(.slice none 0 0)]:=ZB (by kernel_rfl)
theorem ZM:ZI Tryz.prog 84 [(.int .i64 0),(.int .i64 0)]:=ZB (by kernel_rfl)
theorem Qzl:ZI Tryz.prog 115 [(.pointer none),(.slice none 0 0)]:=ZB (by kernel_rfl)
theorem QSv:ZI Tryz.prog 143 [(.slice none 0 0)]:=ZB (by kernel_rfl)
theorem QSw:ZI Tryz.prog 155 [(.slice none 0 0)]:=ZB (by kernel_rfl)
theorem QSx:ZI Tryz.prog 158 [(.int .i64 0),(.int .i64 0),(.int .i64 0),(.pointer none)]:=ZB (by kernel_rfl)
theorem QSy:ZI Tryz.prog 167 [.nilFunc,.nilFunc,.nilFunc,.nilFunc]:=ZB (by kernel_rfl)
theorem nm5:(Tryz.f5.name == numgo)=false:=by kernel_rfl
theorem nm6:(Tryz.f6.name == numgo)=false:=by kernel_rfl
theorem nm7:(Tryz.f7.name == numgo)=false:=by kernel_rfl
theorem nm9:(Tryz.f9.name == numgo)=false:=by kernel_rfl
theorem Qpc:(Tryz.f11.name == numgo)=false:=by kernel_rfl
theorem QIq:(Tryz.f12.name == numgo)=false:=by kernel_rfl
theorem QIy:(Tryz.f15.name == numgo)=false:=by kernel_rfl
theorem QJa:(Tryz.f16.name == numgo)=false:=by kernel_rfl
theorem QJd:(Tryz.f17.name == numgo)=false:=by kernel_rfl
theorem QJe:(Tryz.f18.name == numgo)=false:=by kernel_rfl
theorem QJf:(Tryz.f19.name == numgo)=false:=by kernel_rfl
theorem QJg:(Tryz.f20.name == numgo)=false:=by kernel_rfl
theorem QJh:(Tryz.f21.name == numgo)=false:=by kernel_rfl
theorem Qvi:(Tryz.f22.name == numgo)=false:=by kernel_rfl
theorem Qvj:(Tryz.f23.name == numgo)=false:=by kernel_rfl
theorem QJi:(Tryz.f24.name == numgo)=false:=by kernel_rfl
theorem QJj:(Tryz.f25.name == numgo)=false:=by kernel_rfl
theorem Qvk:(Tryz.f26.name == numgo)=false:=by kernel_rfl
theorem QJk:(Tryz.f27.name == numgo)=false:=by kernel_rfl
theorem QJl:(Tryz.f28.name == numgo)=false:=by kernel_rfl
theorem QJm:(Tryz.f29.name == numgo)=false:=by kernel_rfl
theorem QJn:(Tryz.f30.name == numgo)=false:=by kernel_rfl
theorem Qpe:(Tryz.f31.name == numgo)=false:=by kernel_rfl
theorem Qjx:(Tryz.f32.name == numgo)=false:=by kernel_rfl
theorem Qvl:(Tryz.f33.name == numgo)=false:=by kernel_rfl
theorem ZH:(Tryz.f34.name == numgo)=false:=by kernel_rfl
theorem Qfs:(Tryz.f35.name == numgo)=false:=by kernel_rfl
theorem Qpf:(Tryz.f36.name == numgo)=false:=by kernel_rfl
theorem QJo:(Tryz.f37.name == numgo)=false:=by kernel_rfl
theorem Qbf:(Tryz.f38.name == numgo)=false:=by kernel_rfl
theorem QJp:(Tryz.f39.name == numgo)=false:=by kernel_rfl
theorem Qjy:(Tryz.f40.name == numgo)=false:=by kernel_rfl
theorem QJq:(Tryz.f41.name == numgo)=false:=by kernel_rfl
theorem Zp:(Tryz.f42.name == numgo)=false:=by kernel_rfl
theorem Qpg:(Tryz.f43.name == numgo)=false:=by kernel_rfl
theorem Qvm:(Tryz.f44.name == numgo)=false:=by kernel_rfl
theorem XY:(Tryz.f45.name == numgo)=false:=by kernel_rfl
theorem Qft:(Tryz.f46.name == numgo)=false:=by kernel_rfl
theorem Qvn:(Tryz.f47.name == numgo)=false:=by kernel_rfl
theorem Qph:(Tryz.f48.name == numgo)=false:=by kernel_rfl
theorem QJr:(Tryz.f49.name == numgo)=false:=by kernel_rfl
theorem Qcg:(Tryz.f50.name == numgo)=false:=by kernel_rfl
theorem QJs:(Tryz.f51.name == numgo)=false:=by kernel_rfl
theorem QJt:(Tryz.f52.name == numgo)=false:=by kernel_rfl
theorem QJu:(Tryz.f53.name == numgo)=false:=by kernel_rfl
theorem QJv:(Tryz.f54.name == numgo)=false:=by kernel_rfl
theorem Qvo:(Tryz.f55.name == numgo)=false:=by kernel_rfl
theorem QJw:(Tryz.f56.name == numgo)=false:=by kernel_rfl
theorem Qvp:(Tryz.f57.name == numgo)=false:=by kernel_rfl
theorem Qjz:(Tryz.f58.name == numgo)=false:=by kernel_rfl
theorem QJx:(Tryz.f59.name == numgo)=false:=by kernel_rfl
theorem QJy:(Tryz.f60.name == numgo)=false:=by kernel_rfl
theorem QJz:(Tryz.f61.name == numgo)=false:=by kernel_rfl
theorem Qch:(Tryz.f62.name == numgo)=false:=by kernel_rfl
theorem Qdp:(Tryz.f63.name == numgo)=false:=by kernel_rfl
theorem Qpi:(Tryz.f64.name == numgo)=false:=by kernel_rfl
theorem Qvq:(Tryz.f65.name == numgo)=false:=by kernel_rfl
theorem QKa:(Tryz.f66.name == numgo)=false:=by kernel_rfl
theorem QKb:(Tryz.f67.name == numgo)=false:=by kernel_rfl
theorem Qpj:(Tryz.f68.name == numgo)=false:=by kernel_rfl
theorem QKc:(Tryz.f69.name == numgo)=false:=by kernel_rfl
theorem Qvr:(Tryz.f70.name == numgo)=false:=by kernel_rfl
theorem QKd:(Tryz.f71.name == numgo)=false:=by kernel_rfl
theorem QKe:(Tryz.f72.name == numgo)=false:=by kernel_rfl
theorem Qag:(Tryz.f73.name == numgo)=false:=by kernel_rfl
theorem QKf:(Tryz.f74.name == numgo)=false:=by kernel_rfl
theorem QKg:(Tryz.f75.name == numgo)=false:=by kernel_rfl
theorem QKh:(Tryz.f76.name == numgo)=false:=by kernel_rfl
theorem Qpk:(Tryz.f77.name == numgo)=false:=by kernel_rfl
theorem Qvs:(Tryz.f78.name == numgo)=false:=by kernel_rfl
theorem QKi:(Tryz.f79.name == numgo)=false:=by kernel_rfl
theorem QKj:(Tryz.f80.name == numgo)=false:=by kernel_rfl
theorem QKk:(Tryz.f81.name == numgo)=false:=by kernel_rfl
theorem Qka:(Tryz.f82.name == numgo)=false:=by kernel_rfl
theorem Qdq:(Tryz.f83.name == numgo)=false:=by kernel_rfl
theorem Qvt:(Tryz.f84.name == numgo)=false:=by kernel_rfl
theorem QKl:(Tryz.f85.name == numgo)=false:=by kernel_rfl
theorem QKm:(Tryz.f92.name == numgo)=false:=by kernel_rfl
theorem QKn:(Tryz.f93.name == numgo)=false:=by kernel_rfl
theorem QKo:(Tryz.f94.name == numgo)=false:=by kernel_rfl
theorem Qvu:(Tryz.f95.name == numgo)=false:=by kernel_rfl
theorem QKp:(Tryz.f96.name == numgo)=false:=by kernel_rfl
theorem QKq:(Tryz.f97.name == numgo)=false:=by kernel_rfl
theorem QKr:(Tryz.f98.name == numgo)=false:=by kernel_rfl
theorem QKs:(Tryz.f99.name == numgo)=false:=by kernel_rfl
theorem QIf:(Tryz.f100.name == numgo)=false:=by kernel_rfl
theorem QIg:(Tryz.f101.name == numgo)=false:=by kernel_rfl
theorem QIh:(Tryz.f102.name == numgo)=false:=by kernel_rfl
theorem QIi:(Tryz.f103.name == numgo)=false:=by kernel_rfl
theorem QIj:(Tryz.f104.name == numgo)=false:=by kernel_rfl
theorem QIk:(Tryz.f105.name == numgo)=false:=by kernel_rfl
theorem QIl:(Tryz.f106.name == numgo)=false:=by kernel_rfl
theorem QIm:(Tryz.f107.name == numgo)=false:=by kernel_rfl
theorem QIn:(Tryz.f108.name == numgo)=false:=by kernel_rfl
theorem Qpb:(Tryz.f109.name == numgo)=false:=by kernel_rfl
theorem QIo:(Tryz.f110.name == numgo)=false:=by kernel_rfl
theorem QIp:(Tryz.f111.name == numgo)=false:=by kernel_rfl
theorem QIr:(Tryz.f120.name == numgo)=false:=by kernel_rfl
theorem Qvh:(Tryz.f121.name == numgo)=false:=by kernel_rfl
theorem QIs:(Tryz.f122.name == numgo)=false:=by kernel_rfl
theorem QIt:(Tryz.f123.name == numgo)=false:=by kernel_rfl
theorem QIu:(Tryz.f137.name == numgo)=false:=by kernel_rfl
theorem QIv:(Tryz.f144.name == numgo)=false:=by kernel_rfl
theorem Qpd:(Tryz.f146.name == numgo)=false:=by kernel_rfl
theorem QIw:(Tryz.f147.name == numgo)=false:=by kernel_rfl
theorem QIx:(Tryz.f148.name == numgo)=false:=by kernel_rfl
theorem QIz:(Tryz.f158.name == numgo)=false:=by kernel_rfl
theorem QJb:(Tryz.f160.name == numgo)=false:=by kernel_rfl
theorem QJc:(Tryz.f165.name == numgo)=false:=by kernel_rfl
theorem QCg:Tryz.prog.eqGuardType Tryz.prog.depth 66=false:=by kernel_rfl
theorem QCn (a b:Arr5_Int):EqS Tryz.prog 66 (List.toArray [(.int .i64 a.e0),(.int .i64 a.e1),(.int .i64 a.e2),(.int .i64 a.e3),(.int .i64 a.e4)]) (List.toArray [(.int .i64 b.e0),(.int .i64 b.e1),(.int .i64 b.e2),(.int .i64 b.e3),(.int .i64 b.e4)]) (decide (a=b)):=by
  refine ⟨by intro c hc;simp at hc;(repeat' (rcases hc with rfl | hc));all_goals (first | rfl | (subst hc;rfl) | simp_all [Qdg]),fun w=>?_⟩
  have u3:=Tryz.underlying3
  have a3:=Tryz.isAgg3
  have z3:=Tryz.sizeOf3
  rw [Op.equalIn]
  simp only [Sem.run_bind,run_underlying Tryz.underlying66,Result.andThen_ok]
  simp only [Std.Legacy.Range.forIn_eq_forIn_range',Std.Legacy.Range.size,Nat.sub_zero,Nat.add_sub_cancel,Nat.div_one,List.range'_succ,List.range'_zero,List.forIn_cons,List.forIn_nil]
  go_simp
  cases a;cases b;simp only [Arr5_Int.mk.injEq]
  repeat' split
  all_goals simp_all
theorem XD:Tryz.prog.follows .mixedOrders=true:=by kernel_rfl
end Go.Gw
