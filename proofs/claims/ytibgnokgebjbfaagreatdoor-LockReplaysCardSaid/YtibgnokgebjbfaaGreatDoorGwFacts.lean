/- Facts of the types of the program. No condition. -/
import Derived.Test.YtibgnokgebjbfaaGreatDoorGwSt
import Derived.Test.YtibgnokgebjbfaaGreatDoorGwLib5
import Derived.Laws.StructEq
import Derived.Test.YtibgnokgebjbfaaGreatDoorProg
set_option linter.unusedVariables false
set_option linter.unusedSimpArgs false
set_option linter.unusedSectionVars false
set_option maxRecDepth 100000
namespace Go.Gw
open Go Go.Proofs
abbrev numgo : String := "runtime.NumGoroutine"
theorem QJ:Xn Tryz.prog 3 1:=Yq (by kernel_rfl)
theorem sz5:Xn Tryz.prog 5 1:=Yq (by kernel_rfl)
theorem YQ:Xn Tryz.prog 9 1:=Yq (by kernel_rfl)
theorem Yj:Xn Tryz.prog 22 1:=Yq (by kernel_rfl)
theorem YP:Xn Tryz.prog 23 1:=Yq (by kernel_rfl)
theorem YW:Xn Tryz.prog 24 1:=Yq (by kernel_rfl)
theorem YX:Xn Tryz.prog 26 4:=Yq (by kernel_rfl)
theorem Xc:Xn Tryz.prog 30 1:=Yq (by kernel_rfl)
theorem X7:Xn Tryz.prog 31 1:=Yq (by kernel_rfl)
theorem Xr:Xn Tryz.prog 33 3:=Yq (by kernel_rfl)
theorem QSg:Xn Tryz.prog 34 1:=Yq (by kernel_rfl)
theorem Qdy:Xn Tryz.prog 46 3:=Yq (by kernel_rfl)
theorem Zg:Xn Tryz.prog 56 3:=Yq (by kernel_rfl)
theorem Qnr:Xn Tryz.prog 64 5:=Yq (by kernel_rfl)
theorem ZP:Xn Tryz.prog 71 2:=Yq (by kernel_rfl)
theorem QAv:Xn Tryz.prog 75 1:=Yq (by kernel_rfl)
theorem YE:Xn Tryz.prog 86 2:=Yq (by kernel_rfl)
theorem YF:Xn Tryz.prog 91 2:=Yq (by kernel_rfl)
theorem Qcs:Xn Tryz.prog 103 2:=Yq (by kernel_rfl)
theorem Qis:Xn Tryz.prog 110 1:=Yq (by kernel_rfl)
theorem Qbr:Xn Tryz.prog 111 1:=Yq (by kernel_rfl)
theorem QAt:Xn Tryz.prog 136 1:=Yq (by kernel_rfl)
theorem QAu:Xn Tryz.prog 139 4:=Yq (by kernel_rfl)
theorem QSe:Xn Tryz.prog 146 1:=Yq (by kernel_rfl)
theorem QSf:Xn Tryz.prog 149 1:=Yq (by kernel_rfl)
theorem Qit:Xn Tryz.prog 164 1:=Yq (by kernel_rfl)
theorem QX:YR Tryz.prog 3:=⟨_,Tryz.underlying3,trivial⟩
theorem sc5:YR Tryz.prog 5:=⟨_,Tryz.underlying5,trivial⟩
theorem Zl:YR Tryz.prog 9:=⟨_,Tryz.underlying9,trivial⟩
theorem Yh:YR Tryz.prog 22:=⟨_,Tryz.underlying22,trivial⟩
theorem YO:YR Tryz.prog 23:=⟨_,Tryz.underlying23,trivial⟩
theorem Zd:YR Tryz.prog 24:=⟨_,Tryz.underlying24,trivial⟩
theorem Xi:YR Tryz.prog 30:=⟨_,Tryz.underlying30,trivial⟩
theorem YA:YR Tryz.prog 31:=⟨_,Tryz.underlying31,trivial⟩
theorem QQm:YR Tryz.prog 34:=⟨_,Tryz.underlying34,trivial⟩
theorem Qii:YR Tryz.prog 75:=⟨_,Tryz.underlying75,trivial⟩
theorem Qif:YR Tryz.prog 110:=⟨_,Tryz.underlying110,trivial⟩
theorem Qig:YR Tryz.prog 111:=⟨_,Tryz.underlying111,trivial⟩
theorem Qih:YR Tryz.prog 136:=⟨_,Tryz.underlying136,trivial⟩
theorem QQk:YR Tryz.prog 146:=⟨_,Tryz.underlying146,trivial⟩
theorem QQl:YR Tryz.prog 149:=⟨_,Tryz.underlying149,trivial⟩
theorem Qni:YR Tryz.prog 164:=⟨_,Tryz.underlying164,trivial⟩
theorem X6:Aggr Tryz.prog 26 4:=Qan (by trivial) Tryz.underlying26 (by kernel_rfl)
theorem Xp:Aggr Tryz.prog 33 3:=Qan (by trivial) Tryz.underlying33 (by kernel_rfl)
theorem JQ:Aggr Tryz.prog 46 3:=Qan (by trivial) Tryz.underlying46 (by kernel_rfl)
theorem JR:Aggr Tryz.prog 56 3:=Qan (by trivial) Tryz.underlying56 (by kernel_rfl)
theorem Qgg:Aggr Tryz.prog 64 5:=Qan (by trivial) Tryz.underlying64 (by kernel_rfl)
theorem Qei:Aggr Tryz.prog 71 2:=Qan (by trivial) Tryz.underlying71 (by kernel_rfl)
theorem YC:Aggr Tryz.prog 86 2:=Qan (by trivial) Tryz.underlying86 (by kernel_rfl)
theorem Qbz:Aggr Tryz.prog 91 2:=Qan (by trivial) Tryz.underlying91 (by kernel_rfl)
theorem Qjl:Aggr Tryz.prog 103 2:=Qan (by trivial) Tryz.underlying103 (by kernel_rfl)
theorem QCv:Aggr Tryz.prog 139 4:=Qan (by trivial) Tryz.underlying139 (by kernel_rfl)
theorem YM:EInfo Tryz.prog 3 1 8 (.int .i64 0):=JX (by kernel_rfl) rfl (by decide)
theorem Jj:EInfo Tryz.prog 9 1 16 (.string ByteArray.empty):=JX (by kernel_rfl) rfl (by decide)
theorem QEz:EInfo Tryz.prog 30 1 24 (.slice none 0 0):=JX (by kernel_rfl) rfl (by decide)
theorem ZW:EInfo Tryz.prog 34 1 8 (.int .i64 0):=JX (by kernel_rfl) rfl (by decide)
theorem Qpp:EInfo Tryz.prog 46 3 24 (.agg (List.toArray [(.int .i64 0),(.int .i64 0),(.int .i64 0)])):=JX (by kernel_rfl) rfl (by decide)
theorem Qpq:EInfo Tryz.prog 56 3 64 (.agg (List.toArray [(.string ByteArray.empty),(.slice none 0 0),(.slice none 0 0)])):=JX (by kernel_rfl) rfl (by decide)
theorem YS:EInfo Tryz.prog 71 2 24 (.agg (List.toArray [(.string ByteArray.empty),(.int .i64 0)])):=JX (by kernel_rfl) rfl (by decide)
theorem JW:EInfo Tryz.prog 91 2 32 (.agg (List.toArray [(.slice none 0 0),(.int .i64 0)])):=JX (by kernel_rfl) rfl (by decide)
theorem Qvs:EInfo Tryz.prog 103 2 16 (.agg (List.toArray [(.int .i64 0),(.int .i64 0)])):=JX (by kernel_rfl) rfl (by decide)
theorem QEy:EInfo Tryz.prog 136 1 24 (.slice none 0 0):=JX (by kernel_rfl) rfl (by decide)
theorem Qvt:EInfo Tryz.prog 139 4 32 (.agg (List.toArray [(.int .i64 0),(.int .i64 0),(.int .i64 0),(.pointer none)])):=JX (by kernel_rfl) rfl (by decide)
theorem Qpo:EInfo Tryz.prog 146 1 8 (.pointer none):=JX (by kernel_rfl) rfl (by decide)
theorem ZM:BI Tryz.prog 26 [(0,1),(1,1),(2,1),(3,1)] [(.slice none 0 0),(.slice none 0 0),(.slice none 0 0),(.slice none 0 0)]:=J9 Tryz.underlying26 (by kernel_rfl) (by kernel_rfl)
theorem ZT:BI Tryz.prog 33 [(0,1),(1,1),(2,1)] [(.slice none 0 0),(.slice none 0 0),(.int .i64 0)]:=J9 Tryz.underlying33 (by kernel_rfl) (by kernel_rfl)
theorem Qjp:BI Tryz.prog 46 [(0,1),(1,1),(2,1)] [(.int .i64 0),(.int .i64 0),(.int .i64 0)]:=J9 Tryz.underlying46 (by kernel_rfl) (by kernel_rfl)
theorem Qjq:BI Tryz.prog 56 [(0,1),(1,1),(2,1)] [(.string ByteArray.empty),(.slice none 0 0),(.slice none 0 0)]:=J9 Tryz.underlying56 (by kernel_rfl) (by kernel_rfl)
theorem QDk:BI Tryz.prog 71 [(0,1),(1,1)] [(.string ByteArray.empty),(.int .i64 0)]:=J9 Tryz.underlying71 (by kernel_rfl) (by kernel_rfl)
theorem Qgm:BI Tryz.prog 78 [(0,4),(4,3)] [(.slice none 0 0),(.slice none 0 0),(.slice none 0 0),(.slice none 0 0),(.slice none 0 0),(.slice none 0 0),(.int .i64 0)]:=J9 Tryz.underlying78 (by kernel_rfl) (by kernel_rfl)
theorem JG:BI Tryz.prog 86 [(0,1),(1,1)] [(.int .i64 0),(.int .i64 0)]:=J9 Tryz.underlying86 (by kernel_rfl) (by kernel_rfl)
theorem Qen:BI Tryz.prog 91 [(0,1),(1,1)] [(.slice none 0 0),(.int .i64 0)]:=J9 Tryz.underlying91 (by kernel_rfl) (by kernel_rfl)
theorem QDi:BI Tryz.prog 113 [(0,1),(1,1)] [(.map none),(.slice none 0 0)]:=J9 Tryz.underlying113 (by kernel_rfl) (by kernel_rfl)
theorem QDj:BI Tryz.prog 139 [(0,3),(3,1)] [(.int .i64 0),(.int .i64 0),(.int .i64 0),(.pointer none)]:=J9 Tryz.underlying139 (by kernel_rfl) (by kernel_rfl)
theorem Quz:BI Tryz.prog 148 [(0,1),(1,1),(2,3)] [(.pointer none),(.pointer none),(.int .i64 0),(.int .i64 0),(.int .i64 0)]:=J9 Tryz.underlying148 (by kernel_rfl) (by kernel_rfl)
theorem JC:ZI Tryz.prog 26 [(.slice none 0 0),(.slice none 0 0),(.slice none 0 0),(.slice none 0 0)]:=ZQ (by kernel_rfl)
theorem YK:ZI Tryz.prog 33 [(.slice none 0 0),(.slice none 0 0),(.int .i64 0)]:=ZQ (by kernel_rfl)
theorem QCc:ZI Tryz.prog 46 [(.int .i64 0),(.int .i64 0),(.int .i64 0)]:=ZQ (by kernel_rfl)
theorem Qbw:ZI Tryz.prog 56 [(.string ByteArray.empty),(.slice none 0 0),(.slice none 0 0)]:=ZQ (by kernel_rfl)
theorem Qfz:ZI Tryz.prog 64 [(.int .i64 0),(.int .i64 0),(.int .i64 0),(.int .i64 0),(.int .i64 0)]:=ZQ (by kernel_rfl)
theorem Qoj:ZI Tryz.prog 71 [(.string ByteArray.empty),(.int .i64 0)]:=ZQ (by kernel_rfl)
theorem Z6:ZI Tryz.prog 86 [(.int .i64 0),(.int .i64 0)]:=ZQ (by kernel_rfl)
theorem Qga:ZI Tryz.prog 91 [(.slice none 0 0),(.int .i64 0)]:=ZQ (by kernel_rfl)
theorem QVg:ZI Tryz.prog 103 [(.int .i64 0),(.int .i64 0)]:=ZQ (by kernel_rfl)
theorem QCb:ZI Tryz.prog 117 [(.pointer none),(.slice none 0 0)]:=ZQ (by kernel_rfl)
theorem QVh:ZI Tryz.prog 136 [(.slice none 0 0)]:=ZQ (by kernel_rfl)
theorem QVi:ZI Tryz.prog 139 [(.int .i64 0),(.int .i64 0),(.int .i64 0),(.pointer none)]:=ZQ (by kernel_rfl)
theorem QVj:ZI Tryz.prog 149 [(.slice none 0 0)]:=ZQ (by kernel_rfl)
theorem QVk:ZI Tryz.prog 169 [.nilFunc,.nilFunc,.nilFunc,.nilFunc]:=ZQ (by kernel_rfl)
theorem nm6:(Tryz.f6.name == numgo)=false:=by kernel_rfl
theorem nm7:(Tryz.f7.name == numgo)=false:=by kernel_rfl
theorem nm8:(Tryz.f8.name == numgo)=false:=by kernel_rfl
theorem nm9:(Tryz.f9.name == numgo)=false:=by kernel_rfl
theorem Qlr:(Tryz.f10.name == numgo)=false:=by kernel_rfl
theorem QLd:(Tryz.f11.name == numgo)=false:=by kernel_rfl
theorem Qrn:(Tryz.f12.name == numgo)=false:=by kernel_rfl
theorem QLn:(Tryz.f13.name == numgo)=false:=by kernel_rfl
theorem QLo:(Tryz.f14.name == numgo)=false:=by kernel_rfl
theorem QLu:(Tryz.f17.name == numgo)=false:=by kernel_rfl
theorem Qxv:(Tryz.f19.name == numgo)=false:=by kernel_rfl
theorem Qrp:(Tryz.f20.name == numgo)=false:=by kernel_rfl
theorem QLw:(Tryz.f24.name == numgo)=false:=by kernel_rfl
theorem Qxw:(Tryz.f25.name == numgo)=false:=by kernel_rfl
theorem QLx:(Tryz.f26.name == numgo)=false:=by kernel_rfl
theorem QLy:(Tryz.f27.name == numgo)=false:=by kernel_rfl
theorem QLz:(Tryz.f28.name == numgo)=false:=by kernel_rfl
theorem Qrq:(Tryz.f29.name == numgo)=false:=by kernel_rfl
theorem ZZ:(Tryz.f30.name == numgo)=false:=by kernel_rfl
theorem Qls:(Tryz.f31.name == numgo)=false:=by kernel_rfl
theorem Yg:(Tryz.f32.name == numgo)=false:=by kernel_rfl
theorem Qxx:(Tryz.f33.name == numgo)=false:=by kernel_rfl
theorem Qxy:(Tryz.f34.name == numgo)=false:=by kernel_rfl
theorem Qrr:(Tryz.f35.name == numgo)=false:=by kernel_rfl
theorem Qxz:(Tryz.f36.name == numgo)=false:=by kernel_rfl
theorem Z0:(Tryz.f37.name == numgo)=false:=by kernel_rfl
theorem Qae:(Tryz.f38.name == numgo)=false:=by kernel_rfl
theorem QMa:(Tryz.f39.name == numgo)=false:=by kernel_rfl
theorem Qya:(Tryz.f40.name == numgo)=false:=by kernel_rfl
theorem QMb:(Tryz.f41.name == numgo)=false:=by kernel_rfl
theorem Qyb:(Tryz.f42.name == numgo)=false:=by kernel_rfl
theorem QMc:(Tryz.f43.name == numgo)=false:=by kernel_rfl
theorem Qbn:(Tryz.f44.name == numgo)=false:=by kernel_rfl
theorem QMd:(Tryz.f45.name == numgo)=false:=by kernel_rfl
theorem QMe:(Tryz.f46.name == numgo)=false:=by kernel_rfl
theorem Qlt:(Tryz.f47.name == numgo)=false:=by kernel_rfl
theorem Qrs:(Tryz.f51.name == numgo)=false:=by kernel_rfl
theorem QMf:(Tryz.f52.name == numgo)=false:=by kernel_rfl
theorem Qdm:(Tryz.f53.name == numgo)=false:=by kernel_rfl
theorem QMg:(Tryz.f54.name == numgo)=false:=by kernel_rfl
theorem QMh:(Tryz.f55.name == numgo)=false:=by kernel_rfl
theorem QMi:(Tryz.f56.name == numgo)=false:=by kernel_rfl
theorem Qyc:(Tryz.f57.name == numgo)=false:=by kernel_rfl
theorem Qlu:(Tryz.f58.name == numgo)=false:=by kernel_rfl
theorem QMj:(Tryz.f59.name == numgo)=false:=by kernel_rfl
theorem QMk:(Tryz.f60.name == numgo)=false:=by kernel_rfl
theorem QMl:(Tryz.f61.name == numgo)=false:=by kernel_rfl
theorem Qdn:(Tryz.f62.name == numgo)=false:=by kernel_rfl
theorem Qfd:(Tryz.f63.name == numgo)=false:=by kernel_rfl
theorem Qrt:(Tryz.f64.name == numgo)=false:=by kernel_rfl
theorem Qyd:(Tryz.f65.name == numgo)=false:=by kernel_rfl
theorem QMm:(Tryz.f66.name == numgo)=false:=by kernel_rfl
theorem Qbo:(Tryz.f67.name == numgo)=false:=by kernel_rfl
theorem Qru:(Tryz.f68.name == numgo)=false:=by kernel_rfl
theorem Qye:(Tryz.f69.name == numgo)=false:=by kernel_rfl
theorem QMn:(Tryz.f70.name == numgo)=false:=by kernel_rfl
theorem Qlv:(Tryz.f71.name == numgo)=false:=by kernel_rfl
theorem Qfe:(Tryz.f72.name == numgo)=false:=by kernel_rfl
theorem Qyf:(Tryz.f73.name == numgo)=false:=by kernel_rfl
theorem QMo:(Tryz.f74.name == numgo)=false:=by kernel_rfl
theorem Qyg:(Tryz.f75.name == numgo)=false:=by kernel_rfl
theorem QMp:(Tryz.f76.name == numgo)=false:=by kernel_rfl
theorem QMq:(Tryz.f77.name == numgo)=false:=by kernel_rfl
theorem QMr:(Tryz.f78.name == numgo)=false:=by kernel_rfl
theorem QMs:(Tryz.f79.name == numgo)=false:=by kernel_rfl
theorem QMt:(Tryz.f80.name == numgo)=false:=by kernel_rfl
theorem QMu:(Tryz.f81.name == numgo)=false:=by kernel_rfl
theorem QMv:(Tryz.f82.name == numgo)=false:=by kernel_rfl
theorem Qrv:(Tryz.f84.name == numgo)=false:=by kernel_rfl
theorem Qyh:(Tryz.f85.name == numgo)=false:=by kernel_rfl
theorem QMw:(Tryz.f86.name == numgo)=false:=by kernel_rfl
theorem QMx:(Tryz.f87.name == numgo)=false:=by kernel_rfl
theorem QMy:(Tryz.f88.name == numgo)=false:=by kernel_rfl
theorem QMz:(Tryz.f94.name == numgo)=false:=by kernel_rfl
theorem QNa:(Tryz.f95.name == numgo)=false:=by kernel_rfl
theorem QNb:(Tryz.f96.name == numgo)=false:=by kernel_rfl
theorem Qyi:(Tryz.f97.name == numgo)=false:=by kernel_rfl
theorem QNc:(Tryz.f98.name == numgo)=false:=by kernel_rfl
theorem QNd:(Tryz.f99.name == numgo)=false:=by kernel_rfl
theorem QKt:(Tryz.f100.name == numgo)=false:=by kernel_rfl
theorem QKu:(Tryz.f101.name == numgo)=false:=by kernel_rfl
theorem QKv:(Tryz.f102.name == numgo)=false:=by kernel_rfl
theorem QKw:(Tryz.f103.name == numgo)=false:=by kernel_rfl
theorem QKx:(Tryz.f104.name == numgo)=false:=by kernel_rfl
theorem QKy:(Tryz.f105.name == numgo)=false:=by kernel_rfl
theorem QKz:(Tryz.f106.name == numgo)=false:=by kernel_rfl
theorem QLa:(Tryz.f107.name == numgo)=false:=by kernel_rfl
theorem QLb:(Tryz.f108.name == numgo)=false:=by kernel_rfl
theorem QLc:(Tryz.f109.name == numgo)=false:=by kernel_rfl
theorem QLe:(Tryz.f110.name == numgo)=false:=by kernel_rfl
theorem QLf:(Tryz.f111.name == numgo)=false:=by kernel_rfl
theorem Qrl:(Tryz.f112.name == numgo)=false:=by kernel_rfl
theorem QLg:(Tryz.f113.name == numgo)=false:=by kernel_rfl
theorem Qrm:(Tryz.f114.name == numgo)=false:=by kernel_rfl
theorem QLh:(Tryz.f115.name == numgo)=false:=by kernel_rfl
theorem QLi:(Tryz.f116.name == numgo)=false:=by kernel_rfl
theorem QLj:(Tryz.f117.name == numgo)=false:=by kernel_rfl
theorem QLk:(Tryz.f118.name == numgo)=false:=by kernel_rfl
theorem QLl:(Tryz.f119.name == numgo)=false:=by kernel_rfl
theorem QLm:(Tryz.f128.name == numgo)=false:=by kernel_rfl
theorem Qxu:(Tryz.f129.name == numgo)=false:=by kernel_rfl
theorem QLp:(Tryz.f149.name == numgo)=false:=by kernel_rfl
theorem Qro:(Tryz.f151.name == numgo)=false:=by kernel_rfl
theorem QLq:(Tryz.f152.name == numgo)=false:=by kernel_rfl
theorem QLr:(Tryz.f153.name == numgo)=false:=by kernel_rfl
theorem QLs:(Tryz.f154.name == numgo)=false:=by kernel_rfl
theorem QLt:(Tryz.f165.name == numgo)=false:=by kernel_rfl
theorem QLv:(Tryz.f170.name == numgo)=false:=by kernel_rfl
theorem QEx:Tryz.prog.eqGuardType Tryz.prog.depth 64=false:=by kernel_rfl
theorem QFd (a b:Nw):EqS Tryz.prog 64 (List.toArray [(.int .i64 a.e0),(.int .i64 a.e1),(.int .i64 a.e2),(.int .i64 a.e3),(.int .i64 a.e4)]) (List.toArray [(.int .i64 b.e0),(.int .i64 b.e1),(.int .i64 b.e2),(.int .i64 b.e3),(.int .i64 b.e4)]) (decide (a=b)):=by
  refine ⟨by intro c hc;simp at hc;(repeat' (rcases hc with rfl | hc));all_goals (first | rfl | (subst hc;rfl) | simp_all [Qes]),fun w=>?_⟩
  have u3:=Tryz.underlying3
  have a3:=Tryz.isAgg3
  have z3:=Tryz.sizeOf3
  rw [Op.equalIn]
  simp only [Sem.run_bind,run_underlying Tryz.underlying64,Result.andThen_ok]
  simp only [Std.Legacy.Range.forIn_eq_forIn_range',Std.Legacy.Range.size,Nat.sub_zero,Nat.add_sub_cancel,Nat.div_one,List.range'_succ,List.range'_zero,List.forIn_cons,List.forIn_nil]
  go_simp
  cases a;cases b;simp only [Nw.mk.injEq]
  repeat' split
  all_goals simp_all
theorem XB:Tryz.prog.follows .mixedOrders=true:=by kernel_rfl
end Go.Gw
