/- Facts of the types of the program. No condition. -/
import Derived.Test.YteplgmnnkdpmeaaGreatDoorGwSt
import Derived.Test.YteplgmnnkdpmeaaGreatDoorGwLib5
import Derived.Laws.StructEq
import Derived.Test.YteplgmnnkdpmeaaGreatDoorProg
set_option linter.unusedVariables false
set_option linter.unusedSimpArgs false
set_option linter.unusedSectionVars false
set_option maxRecDepth 100000
namespace Go.Gw
open Go Go.Proofs
abbrev numgo : String := "runtime.NumGoroutine"
theorem QM:Xq Tryz.prog 3 1:=Yv (by kernel_rfl)
theorem sz5:Xq Tryz.prog 5 1:=Yv (by kernel_rfl)
theorem Y2:Xq Tryz.prog 9 1:=Yv (by kernel_rfl)
theorem Ym:Xq Tryz.prog 22 1:=Yv (by kernel_rfl)
theorem YY:Xq Tryz.prog 23 1:=Yv (by kernel_rfl)
theorem Y1:Xq Tryz.prog 24 1:=Yv (by kernel_rfl)
theorem Y9:Xq Tryz.prog 26 4:=Yv (by kernel_rfl)
theorem Xb:Xq Tryz.prog 27 1:=Yv (by kernel_rfl)
theorem YB:Xq Tryz.prog 28 1:=Yv (by kernel_rfl)
theorem Yp:Xq Tryz.prog 30 3:=Yv (by kernel_rfl)
theorem Qmq:Xq Tryz.prog 32 3:=Yv (by kernel_rfl)
theorem QQy:Xq Tryz.prog 38 1:=Yv (by kernel_rfl)
theorem Xv:Xq Tryz.prog 44 2:=Yv (by kernel_rfl)
theorem Qmr:Xq Tryz.prog 60 5:=Yv (by kernel_rfl)
theorem ZO:Xq Tryz.prog 78 2:=Yv (by kernel_rfl)
theorem Zo:Xq Tryz.prog 80 3:=Yv (by kernel_rfl)
theorem Qzk:Xq Tryz.prog 83 1:=Yv (by kernel_rfl)
theorem YN:Xq Tryz.prog 93 2:=Yv (by kernel_rfl)
theorem Qzl:Xq Tryz.prog 99 1:=Yv (by kernel_rfl)
theorem Qzj:Xq Tryz.prog 102 4:=Yv (by kernel_rfl)
theorem Qcp:Xq Tryz.prog 112 2:=Yv (by kernel_rfl)
theorem Qid:Xq Tryz.prog 123 1:=Yv (by kernel_rfl)
theorem Qbv:Xq Tryz.prog 124 1:=Yv (by kernel_rfl)
theorem QQw:Xq Tryz.prog 162 1:=Yv (by kernel_rfl)
theorem QQx:Xq Tryz.prog 165 1:=Yv (by kernel_rfl)
theorem Qie:Xq Tryz.prog 185 1:=Yv (by kernel_rfl)
theorem QU:Y3 Tryz.prog 3:=⟨_,Tryz.underlying3,trivial⟩
theorem sc5:Y3 Tryz.prog 5:=⟨_,Tryz.underlying5,trivial⟩
theorem Zs:Y3 Tryz.prog 9:=⟨_,Tryz.underlying9,trivial⟩
theorem Yk:Y3 Tryz.prog 22:=⟨_,Tryz.underlying22,trivial⟩
theorem YX:Y3 Tryz.prog 23:=⟨_,Tryz.underlying23,trivial⟩
theorem Zf:Y3 Tryz.prog 24:=⟨_,Tryz.underlying24,trivial⟩
theorem Xd:Y3 Tryz.prog 27:=⟨_,Tryz.underlying27,trivial⟩
theorem YA:Y3 Tryz.prog 28:=⟨_,Tryz.underlying28,trivial⟩
theorem QPd:Y3 Tryz.prog 38:=⟨_,Tryz.underlying38,trivial⟩
theorem Qht:Y3 Tryz.prog 83:=⟨_,Tryz.underlying83,trivial⟩
theorem Qhu:Y3 Tryz.prog 99:=⟨_,Tryz.underlying99,trivial⟩
theorem Qhr:Y3 Tryz.prog 123:=⟨_,Tryz.underlying123,trivial⟩
theorem Qhs:Y3 Tryz.prog 124:=⟨_,Tryz.underlying124,trivial⟩
theorem QPb:Y3 Tryz.prog 162:=⟨_,Tryz.underlying162,trivial⟩
theorem QPc:Y3 Tryz.prog 165:=⟨_,Tryz.underlying165,trivial⟩
theorem Qmj:Y3 Tryz.prog 185:=⟨_,Tryz.underlying185,trivial⟩
theorem Yg:Aggr Tryz.prog 26 4:=Qar (by trivial) Tryz.underlying26 (by kernel_rfl)
theorem Zl:Aggr Tryz.prog 30 3:=Qar (by trivial) Tryz.underlying30 (by kernel_rfl)
theorem Qaq:Aggr Tryz.prog 32 3:=Qar (by trivial) Tryz.underlying32 (by kernel_rfl)
theorem YZ:Aggr Tryz.prog 44 2:=Qar (by trivial) Tryz.underlying44 (by kernel_rfl)
theorem Qfx:Aggr Tryz.prog 60 5:=Qar (by trivial) Tryz.underlying60 (by kernel_rfl)
theorem Qea:Aggr Tryz.prog 78 2:=Qar (by trivial) Tryz.underlying78 (by kernel_rfl)
theorem J1:Aggr Tryz.prog 80 3:=Qar (by trivial) Tryz.underlying80 (by kernel_rfl)
theorem YJ:Aggr Tryz.prog 93 2:=Qar (by trivial) Tryz.underlying93 (by kernel_rfl)
theorem QBj:Aggr Tryz.prog 102 4:=Qar (by trivial) Tryz.underlying102 (by kernel_rfl)
theorem Qiv:Aggr Tryz.prog 112 2:=Qar (by trivial) Tryz.underlying112 (by kernel_rfl)
theorem Y5:EInfo Tryz.prog 3 1 8 (.int .i64 0):=J4 (by kernel_rfl) rfl (by decide)
theorem Jr:EInfo Tryz.prog 9 1 16 (.string ByteArray.empty):=J4 (by kernel_rfl) rfl (by decide)
theorem QDp:EInfo Tryz.prog 27 1 24 (.slice none 0 0):=J4 (by kernel_rfl) rfl (by decide)
theorem QDq:EInfo Tryz.prog 32 3 24 (.agg (List.toArray [(.int .i64 0),(.int .i64 0),(.int .i64 0)])):=J4 (by kernel_rfl) rfl (by decide)
theorem Z5:EInfo Tryz.prog 38 1 8 (.int .i64 0):=J4 (by kernel_rfl) rfl (by decide)
theorem Qch:EInfo Tryz.prog 44 2 32 (.agg (List.toArray [(.slice none 0 0),(.int .i64 0)])):=J4 (by kernel_rfl) rfl (by decide)
theorem Y6:EInfo Tryz.prog 78 2 24 (.agg (List.toArray [(.string ByteArray.empty),(.int .i64 0)])):=J4 (by kernel_rfl) rfl (by decide)
theorem Qos:EInfo Tryz.prog 80 3 64 (.agg (List.toArray [(.string ByteArray.empty),(.slice none 0 0),(.slice none 0 0)])):=J4 (by kernel_rfl) rfl (by decide)
theorem QDr:EInfo Tryz.prog 99 1 24 (.slice none 0 0):=J4 (by kernel_rfl) rfl (by decide)
theorem Qun:EInfo Tryz.prog 102 4 32 (.agg (List.toArray [(.int .i64 0),(.int .i64 0),(.int .i64 0),(.pointer none)])):=J4 (by kernel_rfl) rfl (by decide)
theorem Quo:EInfo Tryz.prog 112 2 16 (.agg (List.toArray [(.int .i64 0),(.int .i64 0)])):=J4 (by kernel_rfl) rfl (by decide)
theorem Qor:EInfo Tryz.prog 162 1 8 (.pointer none):=J4 (by kernel_rfl) rfl (by decide)
theorem ZT:BI Tryz.prog 26 [(0,1),(1,1),(2,1),(3,1)] [(.slice none 0 0),(.slice none 0 0),(.slice none 0 0),(.slice none 0 0)]:=Qaf Tryz.underlying26 (by kernel_rfl) (by kernel_rfl)
theorem Qbk:BI Tryz.prog 30 [(0,1),(1,1),(2,1)] [(.slice none 0 0),(.slice none 0 0),(.int .i64 0)]:=Qaf Tryz.underlying30 (by kernel_rfl) (by kernel_rfl)
theorem Qiy:BI Tryz.prog 32 [(0,1),(1,1),(2,1)] [(.int .i64 0),(.int .i64 0),(.int .i64 0)]:=Qaf Tryz.underlying32 (by kernel_rfl) (by kernel_rfl)
theorem Qog:BI Tryz.prog 44 [(0,1),(1,1)] [(.slice none 0 0),(.int .i64 0)]:=Qaf Tryz.underlying44 (by kernel_rfl) (by kernel_rfl)
theorem QBx:BI Tryz.prog 78 [(0,1),(1,1)] [(.string ByteArray.empty),(.int .i64 0)]:=Qaf Tryz.underlying78 (by kernel_rfl) (by kernel_rfl)
theorem Qiz:BI Tryz.prog 80 [(0,1),(1,1),(2,1)] [(.string ByteArray.empty),(.slice none 0 0),(.slice none 0 0)]:=Qaf Tryz.underlying80 (by kernel_rfl) (by kernel_rfl)
theorem JM:BI Tryz.prog 93 [(0,1),(1,1)] [(.int .i64 0),(.int .i64 0)]:=Qaf Tryz.underlying93 (by kernel_rfl) (by kernel_rfl)
theorem QBv:BI Tryz.prog 102 [(0,3),(3,1)] [(.int .i64 0),(.int .i64 0),(.int .i64 0),(.pointer none)]:=Qaf Tryz.underlying102 (by kernel_rfl) (by kernel_rfl)
theorem Qgb:BI Tryz.prog 119 [(0,4),(4,3)] [(.slice none 0 0),(.slice none 0 0),(.slice none 0 0),(.slice none 0 0),(.slice none 0 0),(.slice none 0 0),(.int .i64 0)]:=Qaf Tryz.underlying119 (by kernel_rfl) (by kernel_rfl)
theorem QBw:BI Tryz.prog 126 [(0,1),(1,1)] [(.map none),(.slice none 0 0)]:=Qaf Tryz.underlying126 (by kernel_rfl) (by kernel_rfl)
theorem Qtw:BI Tryz.prog 164 [(0,1),(1,1),(2,3)] [(.pointer none),(.pointer none),(.int .i64 0),(.int .i64 0),(.int .i64 0)]:=Qaf Tryz.underlying164 (by kernel_rfl) (by kernel_rfl)
theorem JH:ZI Tryz.prog 26 [(.slice none 0 0),(.slice none 0 0),(.slice none 0 0),(.slice none 0 0)]:=Z0 (by kernel_rfl)
theorem JI:ZI Tryz.prog 30 [(.slice none 0 0),(.slice none 0 0),(.int .i64 0)]:=Z0 (by kernel_rfl)
theorem QAp:ZI Tryz.prog 32 [(.int .i64 0),(.int .i64 0),(.int .i64 0)]:=Z0 (by kernel_rfl)
theorem Zj:ZI Tryz.prog 44 [(.slice none 0 0),(.int .i64 0)]:=Z0 (by kernel_rfl)
theorem Qfr:ZI Tryz.prog 60 [(.int .i64 0),(.int .i64 0),(.int .i64 0),(.int .i64 0),(.int .i64 0)]:=Z0 (by kernel_rfl)
theorem Qnk:ZI Tryz.prog 78 [(.string ByteArray.empty),(.int .i64 0)]:=Z0 (by kernel_rfl)
theorem Qby:ZI Tryz.prog 80 [(.string ByteArray.empty),(.slice none 0 0),(.slice none 0 0)]:=Z0 (by kernel_rfl)
theorem Jf:ZI Tryz.prog 93 [(.int .i64 0),(.int .i64 0)]:=Z0 (by kernel_rfl)
theorem QUf:ZI Tryz.prog 99 [(.slice none 0 0)]:=Z0 (by kernel_rfl)
theorem QTz:ZI Tryz.prog 102 [(.int .i64 0),(.int .i64 0),(.int .i64 0),(.pointer none)]:=Z0 (by kernel_rfl)
theorem QUa:ZI Tryz.prog 112 [(.int .i64 0),(.int .i64 0)]:=Z0 (by kernel_rfl)
theorem QAo:ZI Tryz.prog 130 [(.pointer none),(.slice none 0 0)]:=Z0 (by kernel_rfl)
theorem QUb:ZI Tryz.prog 165 [(.slice none 0 0)]:=Z0 (by kernel_rfl)
theorem QUc:ZI Tryz.prog 190 [.nilFunc,.nilFunc,.nilFunc,.nilFunc]:=Z0 (by kernel_rfl)
theorem nm7:(Tryz.f7.name == numgo)=false:=by kernel_rfl
theorem nm8:(Tryz.f8.name == numgo)=false:=by kernel_rfl
theorem nm9:(Tryz.f9.name == numgo)=false:=by kernel_rfl
theorem QJq:(Tryz.f10.name == numgo)=false:=by kernel_rfl
theorem QJw:(Tryz.f11.name == numgo)=false:=by kernel_rfl
theorem Qkx:(Tryz.f12.name == numgo)=false:=by kernel_rfl
theorem Qwn:(Tryz.f13.name == numgo)=false:=by kernel_rfl
theorem Qqn:(Tryz.f14.name == numgo)=false:=by kernel_rfl
theorem Qhb:(Tryz.f15.name == numgo)=false:=by kernel_rfl
theorem QKv:(Tryz.f17.name == numgo)=false:=by kernel_rfl
theorem QKy:(Tryz.f19.name == numgo)=false:=by kernel_rfl
theorem QKz:(Tryz.f27.name == numgo)=false:=by kernel_rfl
theorem Qwp:(Tryz.f28.name == numgo)=false:=by kernel_rfl
theorem QLa:(Tryz.f29.name == numgo)=false:=by kernel_rfl
theorem QLb:(Tryz.f30.name == numgo)=false:=by kernel_rfl
theorem QLc:(Tryz.f31.name == numgo)=false:=by kernel_rfl
theorem QLd:(Tryz.f32.name == numgo)=false:=by kernel_rfl
theorem Qqp:(Tryz.f33.name == numgo)=false:=by kernel_rfl
theorem J9:(Tryz.f34.name == numgo)=false:=by kernel_rfl
theorem QLe:(Tryz.f35.name == numgo)=false:=by kernel_rfl
theorem Qwq:(Tryz.f36.name == numgo)=false:=by kernel_rfl
theorem QLf:(Tryz.f37.name == numgo)=false:=by kernel_rfl
theorem Qwr:(Tryz.f38.name == numgo)=false:=by kernel_rfl
theorem Qqq:(Tryz.f39.name == numgo)=false:=by kernel_rfl
theorem Qws:(Tryz.f40.name == numgo)=false:=by kernel_rfl
theorem Z8:(Tryz.f41.name == numgo)=false:=by kernel_rfl
theorem Qhc:(Tryz.f42.name == numgo)=false:=by kernel_rfl
theorem Z9:(Tryz.f43.name == numgo)=false:=by kernel_rfl
theorem Qky:(Tryz.f44.name == numgo)=false:=by kernel_rfl
theorem QLg:(Tryz.f46.name == numgo)=false:=by kernel_rfl
theorem QLh:(Tryz.f47.name == numgo)=false:=by kernel_rfl
theorem Qqr:(Tryz.f48.name == numgo)=false:=by kernel_rfl
theorem QLi:(Tryz.f49.name == numgo)=false:=by kernel_rfl
theorem Qqs:(Tryz.f57.name == numgo)=false:=by kernel_rfl
theorem QLj:(Tryz.f58.name == numgo)=false:=by kernel_rfl
theorem Qdj:(Tryz.f59.name == numgo)=false:=by kernel_rfl
theorem QLk:(Tryz.f60.name == numgo)=false:=by kernel_rfl
theorem QLl:(Tryz.f61.name == numgo)=false:=by kernel_rfl
theorem QLm:(Tryz.f62.name == numgo)=false:=by kernel_rfl
theorem Yj:(Tryz.f63.name == numgo)=false:=by kernel_rfl
theorem Qwt:(Tryz.f64.name == numgo)=false:=by kernel_rfl
theorem Qwu:(Tryz.f65.name == numgo)=false:=by kernel_rfl
theorem Qkz:(Tryz.f66.name == numgo)=false:=by kernel_rfl
theorem QLn:(Tryz.f67.name == numgo)=false:=by kernel_rfl
theorem QLo:(Tryz.f68.name == numgo)=false:=by kernel_rfl
theorem QLp:(Tryz.f69.name == numgo)=false:=by kernel_rfl
theorem Qdk:(Tryz.f70.name == numgo)=false:=by kernel_rfl
theorem Qev:(Tryz.f71.name == numgo)=false:=by kernel_rfl
theorem Qqt:(Tryz.f72.name == numgo)=false:=by kernel_rfl
theorem Qwv:(Tryz.f73.name == numgo)=false:=by kernel_rfl
theorem QLq:(Tryz.f74.name == numgo)=false:=by kernel_rfl
theorem Qqu:(Tryz.f75.name == numgo)=false:=by kernel_rfl
theorem QLr:(Tryz.f76.name == numgo)=false:=by kernel_rfl
theorem Qbs:(Tryz.f77.name == numgo)=false:=by kernel_rfl
theorem Qww:(Tryz.f78.name == numgo)=false:=by kernel_rfl
theorem QLs:(Tryz.f79.name == numgo)=false:=by kernel_rfl
theorem Qla:(Tryz.f80.name == numgo)=false:=by kernel_rfl
theorem Qlb:(Tryz.f81.name == numgo)=false:=by kernel_rfl
theorem Qew:(Tryz.f82.name == numgo)=false:=by kernel_rfl
theorem Qwx:(Tryz.f83.name == numgo)=false:=by kernel_rfl
theorem QLt:(Tryz.f84.name == numgo)=false:=by kernel_rfl
theorem QLu:(Tryz.f85.name == numgo)=false:=by kernel_rfl
theorem Qwy:(Tryz.f86.name == numgo)=false:=by kernel_rfl
theorem QLv:(Tryz.f87.name == numgo)=false:=by kernel_rfl
theorem QLw:(Tryz.f88.name == numgo)=false:=by kernel_rfl
theorem QLx:(Tryz.f90.name == numgo)=false:=by kernel_rfl
theorem Qqv:(Tryz.f95.name == numgo)=false:=by kernel_rfl
theorem Qwz:(Tryz.f96.name == numgo)=false:=by kernel_rfl
theorem QLy:(Tryz.f97.name == numgo)=false:=by kernel_rfl
theorem QLz:(Tryz.f98.name == numgo)=false:=by kernel_rfl
theorem QMa:(Tryz.f99.name == numgo)=false:=by kernel_rfl
theorem QJr:(Tryz.f105.name == numgo)=false:=by kernel_rfl
theorem QJs:(Tryz.f106.name == numgo)=false:=by kernel_rfl
theorem QJt:(Tryz.f107.name == numgo)=false:=by kernel_rfl
theorem QJu:(Tryz.f108.name == numgo)=false:=by kernel_rfl
theorem QJv:(Tryz.f109.name == numgo)=false:=by kernel_rfl
theorem QJx:(Tryz.f110.name == numgo)=false:=by kernel_rfl
theorem QJy:(Tryz.f111.name == numgo)=false:=by kernel_rfl
theorem QJz:(Tryz.f112.name == numgo)=false:=by kernel_rfl
theorem Qwm:(Tryz.f113.name == numgo)=false:=by kernel_rfl
theorem QKa:(Tryz.f114.name == numgo)=false:=by kernel_rfl
theorem QKb:(Tryz.f115.name == numgo)=false:=by kernel_rfl
theorem QKc:(Tryz.f116.name == numgo)=false:=by kernel_rfl
theorem QKd:(Tryz.f117.name == numgo)=false:=by kernel_rfl
theorem QKe:(Tryz.f118.name == numgo)=false:=by kernel_rfl
theorem QKf:(Tryz.f119.name == numgo)=false:=by kernel_rfl
theorem QKg:(Tryz.f120.name == numgo)=false:=by kernel_rfl
theorem QKh:(Tryz.f121.name == numgo)=false:=by kernel_rfl
theorem QKi:(Tryz.f122.name == numgo)=false:=by kernel_rfl
theorem QKj:(Tryz.f123.name == numgo)=false:=by kernel_rfl
theorem QKk:(Tryz.f124.name == numgo)=false:=by kernel_rfl
theorem QKl:(Tryz.f125.name == numgo)=false:=by kernel_rfl
theorem Qqm:(Tryz.f126.name == numgo)=false:=by kernel_rfl
theorem QKm:(Tryz.f127.name == numgo)=false:=by kernel_rfl
theorem QKn:(Tryz.f128.name == numgo)=false:=by kernel_rfl
theorem QKo:(Tryz.f132.name == numgo)=false:=by kernel_rfl
theorem QKp:(Tryz.f141.name == numgo)=false:=by kernel_rfl
theorem Qwo:(Tryz.f142.name == numgo)=false:=by kernel_rfl
theorem QKq:(Tryz.f162.name == numgo)=false:=by kernel_rfl
theorem QKr:(Tryz.f164.name == numgo)=false:=by kernel_rfl
theorem QKs:(Tryz.f165.name == numgo)=false:=by kernel_rfl
theorem Qqo:(Tryz.f166.name == numgo)=false:=by kernel_rfl
theorem QKt:(Tryz.f167.name == numgo)=false:=by kernel_rfl
theorem QKu:(Tryz.f168.name == numgo)=false:=by kernel_rfl
theorem QKw:(Tryz.f179.name == numgo)=false:=by kernel_rfl
theorem QKx:(Tryz.f184.name == numgo)=false:=by kernel_rfl
theorem QDo:Tryz.prog.eqGuardType Tryz.prog.depth 60=false:=by kernel_rfl
theorem QDv (a b:Nw):EqS Tryz.prog 60 (List.toArray [(.int .i64 a.e0),(.int .i64 a.e1),(.int .i64 a.e2),(.int .i64 a.e3),(.int .i64 a.e4)]) (List.toArray [(.int .i64 b.e0),(.int .i64 b.e1),(.int .i64 b.e2),(.int .i64 b.e3),(.int .i64 b.e4)]) (decide (a=b)):=by
  refine ⟨by intro c hc;simp at hc;(repeat' (rcases hc with rfl | hc));all_goals (first | rfl | (subst hc;rfl) | simp_all [Qei]),fun w=>?_⟩
  have u3:=Tryz.underlying3
  have a3:=Tryz.isAgg3
  have z3:=Tryz.sizeOf3
  rw [Op.equalIn]
  simp only [Sem.run_bind,run_underlying Tryz.underlying60,Result.andThen_ok]
  simp only [Std.Legacy.Range.forIn_eq_forIn_range',Std.Legacy.Range.size,Nat.sub_zero,Nat.add_sub_cancel,Nat.div_one,List.range'_succ,List.range'_zero,List.forIn_cons,List.forIn_nil]
  go_simp
  cases a;cases b;simp only [Nw.mk.injEq]
  repeat' split
  all_goals simp_all
theorem XO:Tryz.prog.follows .mixedOrders=true:=by kernel_rfl
end Go.Gw
