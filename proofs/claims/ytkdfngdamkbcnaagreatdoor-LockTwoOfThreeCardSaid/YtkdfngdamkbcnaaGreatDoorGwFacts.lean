/- Facts of the types of the program. No condition. -/
import Derived.Test.YtkdfngdamkbcnaaGreatDoorGwSt
import Derived.Test.YtkdfngdamkbcnaaGreatDoorGwLib5
import Derived.Laws.StructEq
import Derived.Test.YtkdfngdamkbcnaaGreatDoorProg
set_option linter.unusedVariables false
set_option linter.unusedSimpArgs false
set_option linter.unusedSectionVars false
set_option maxRecDepth 100000
namespace Go.Gw
open Go Go.Proofs
abbrev numgo : String := "runtime.NumGoroutine"
theorem QP:Q8 Tryz.prog 3 1:=X4 (by kernel_rfl)
theorem sz5:Q8 Tryz.prog 5 1:=X4 (by kernel_rfl)
theorem ZN:Q8 Tryz.prog 9 1:=X4 (by kernel_rfl)
theorem YL:Q8 Tryz.prog 22 1:=X4 (by kernel_rfl)
theorem ZM:Q8 Tryz.prog 23 1:=X4 (by kernel_rfl)
theorem Zl:Q8 Tryz.prog 24 1:=X4 (by kernel_rfl)
theorem YM:Q8 Tryz.prog 26 4:=X4 (by kernel_rfl)
theorem Xq:Q8 Tryz.prog 27 1:=X4 (by kernel_rfl)
theorem Yi:Q8 Tryz.prog 28 1:=X4 (by kernel_rfl)
theorem XE:Q8 Tryz.prog 30 3:=X4 (by kernel_rfl)
theorem Qan:Q8 Tryz.prog 32 3:=X4 (by kernel_rfl)
theorem YW:Q8 Tryz.prog 34 5:=X4 (by kernel_rfl)
theorem QRj:Q8 Tryz.prog 38 1:=X4 (by kernel_rfl)
theorem QRk:Q8 Tryz.prog 41 15:=X4 (by kernel_rfl)
theorem Y6:Q8 Tryz.prog 61 2:=X4 (by kernel_rfl)
theorem Qch:Q8 Tryz.prog 67 2:=X4 (by kernel_rfl)
theorem Y7:Q8 Tryz.prog 71 2:=X4 (by kernel_rfl)
theorem Qzo:Q8 Tryz.prog 92 1:=X4 (by kernel_rfl)
theorem J3:Q8 Tryz.prog 97 2:=X4 (by kernel_rfl)
theorem Zo:Q8 Tryz.prog 99 3:=X4 (by kernel_rfl)
theorem Qzl:Q8 Tryz.prog 100 1:=X4 (by kernel_rfl)
theorem Qil:Q8 Tryz.prog 119 1:=X4 (by kernel_rfl)
theorem Qim:Q8 Tryz.prog 132 1:=X4 (by kernel_rfl)
theorem Qbf:Q8 Tryz.prog 133 1:=X4 (by kernel_rfl)
theorem QRh:Q8 Tryz.prog 164 1:=X4 (by kernel_rfl)
theorem QRi:Q8 Tryz.prog 167 1:=X4 (by kernel_rfl)
theorem Qzm:Q8 Tryz.prog 179 1:=X4 (by kernel_rfl)
theorem Qzn:Q8 Tryz.prog 182 4:=X4 (by kernel_rfl)
theorem Q3:YB Tryz.prog 3:=⟨_,Tryz.underlying3,trivial⟩
theorem sc5:YB Tryz.prog 5:=⟨_,Tryz.underlying5,trivial⟩
theorem Jo:YB Tryz.prog 9:=⟨_,Tryz.underlying9,trivial⟩
theorem YI:YB Tryz.prog 22:=⟨_,Tryz.underlying22,trivial⟩
theorem ZK:YB Tryz.prog 23:=⟨_,Tryz.underlying23,trivial⟩
theorem Zz:YB Tryz.prog 24:=⟨_,Tryz.underlying24,trivial⟩
theorem Xt:YB Tryz.prog 27:=⟨_,Tryz.underlying27,trivial⟩
theorem YJ:YB Tryz.prog 28:=⟨_,Tryz.underlying28,trivial⟩
theorem QPg:YB Tryz.prog 38:=⟨_,Tryz.underlying38,trivial⟩
theorem Qyl:YB Tryz.prog 92:=⟨_,Tryz.underlying92,trivial⟩
theorem Qhu:YB Tryz.prog 100:=⟨_,Tryz.underlying100,trivial⟩
theorem Qlx:YB Tryz.prog 119:=⟨_,Tryz.underlying119,trivial⟩
theorem Qhv:YB Tryz.prog 132:=⟨_,Tryz.underlying132,trivial⟩
theorem Qhw:YB Tryz.prog 133:=⟨_,Tryz.underlying133,trivial⟩
theorem QPe:YB Tryz.prog 164:=⟨_,Tryz.underlying164,trivial⟩
theorem QPf:YB Tryz.prog 167:=⟨_,Tryz.underlying167,trivial⟩
theorem Qhx:YB Tryz.prog 179:=⟨_,Tryz.underlying179,trivial⟩
theorem Yp:Aggr Tryz.prog 26 4:=JP (by trivial) Tryz.underlying26 (by kernel_rfl)
theorem Yf:Aggr Tryz.prog 30 3:=JP (by trivial) Tryz.underlying30 (by kernel_rfl)
theorem Ji:Aggr Tryz.prog 32 3:=JP (by trivial) Tryz.underlying32 (by kernel_rfl)
theorem Yn:Aggr Tryz.prog 34 5:=JP (by trivial) Tryz.underlying34 (by kernel_rfl)
theorem Qjd:Aggr Tryz.prog 41 15:=JP (by trivial) Tryz.underlying41 (by kernel_rfl)
theorem Qdy:Aggr Tryz.prog 61 2:=JP (by trivial) Tryz.underlying61 (by kernel_rfl)
theorem Qje:Aggr Tryz.prog 67 2:=JP (by trivial) Tryz.underlying67 (by kernel_rfl)
theorem Za:Aggr Tryz.prog 71 2:=JP (by trivial) Tryz.underlying71 (by kernel_rfl)
theorem Qfz:Aggr Tryz.prog 97 2:=JP (by trivial) Tryz.underlying97 (by kernel_rfl)
theorem Qac:Aggr Tryz.prog 99 3:=JP (by trivial) Tryz.underlying99 (by kernel_rfl)
theorem QBv:Aggr Tryz.prog 182 4:=JP (by trivial) Tryz.underlying182 (by kernel_rfl)
theorem YU:EInfo Tryz.prog 3 1 8 (.int .i64 0):=Z3 (by kernel_rfl) rfl (by decide)
theorem Z1:EInfo Tryz.prog 9 1 16 (.string ByteArray.empty):=Z3 (by kernel_rfl) rfl (by decide)
theorem QEf:EInfo Tryz.prog 27 1 24 (.slice none 0 0):=Z3 (by kernel_rfl) rfl (by decide)
theorem QEg:EInfo Tryz.prog 32 3 24 (.agg (List.toArray [(.int .i64 0),(.int .i64 0),(.int .i64 0)])):=Z3 (by kernel_rfl) rfl (by decide)
theorem Qui:EInfo Tryz.prog 34 5 40 (.agg (List.toArray [(.int .i64 0),(.int .i64 0),(.int .i64 0),(.int .i64 0),(.int .i64 0)])):=Z3 (by kernel_rfl) rfl (by decide)
theorem Zu:EInfo Tryz.prog 38 1 8 (.int .i64 0):=Z3 (by kernel_rfl) rfl (by decide)
theorem Qbr:EInfo Tryz.prog 61 2 32 (.agg (List.toArray [(.slice none 0 0),(.int .i64 0)])):=Z3 (by kernel_rfl) rfl (by decide)
theorem Quj:EInfo Tryz.prog 67 2 16 (.agg (List.toArray [(.int .i64 0),(.int .i64 0)])):=Z3 (by kernel_rfl) rfl (by decide)
theorem QEh:EInfo Tryz.prog 92 1 24 (.slice none 0 0):=Z3 (by kernel_rfl) rfl (by decide)
theorem YG:EInfo Tryz.prog 97 2 24 (.agg (List.toArray [(.string ByteArray.empty),(.int .i64 0)])):=Z3 (by kernel_rfl) rfl (by decide)
theorem Qoe:EInfo Tryz.prog 99 3 64 (.agg (List.toArray [(.string ByteArray.empty),(.slice none 0 0),(.slice none 0 0)])):=Z3 (by kernel_rfl) rfl (by decide)
theorem Qod:EInfo Tryz.prog 164 1 8 (.pointer none):=Z3 (by kernel_rfl) rfl (by decide)
theorem QEe:EInfo Tryz.prog 179 1 24 (.slice none 0 0):=Z3 (by kernel_rfl) rfl (by decide)
theorem Quh:EInfo Tryz.prog 182 4 32 (.agg (List.toArray [(.int .i64 0),(.int .i64 0),(.int .i64 0),(.pointer none)])):=Z3 (by kernel_rfl) rfl (by decide)
theorem Zs:BI Tryz.prog 26 [(0,1),(1,1),(2,1),(3,1)] [(.slice none 0 0),(.slice none 0 0),(.slice none 0 0),(.slice none 0 0)]:=JQ Tryz.underlying26 (by kernel_rfl) (by kernel_rfl)
theorem Jk:BI Tryz.prog 30 [(0,1),(1,1),(2,1)] [(.slice none 0 0),(.slice none 0 0),(.int .i64 0)]:=JQ Tryz.underlying30 (by kernel_rfl) (by kernel_rfl)
theorem Qea:BI Tryz.prog 32 [(0,1),(1,1),(2,1)] [(.int .i64 0),(.int .i64 0),(.int .i64 0)]:=JQ Tryz.underlying32 (by kernel_rfl) (by kernel_rfl)
theorem Qnq:BI Tryz.prog 61 [(0,1),(1,1)] [(.slice none 0 0),(.int .i64 0)]:=JQ Tryz.underlying61 (by kernel_rfl) (by kernel_rfl)
theorem Qbo:BI Tryz.prog 71 [(0,1),(1,1)] [(.int .i64 0),(.int .i64 0)]:=JQ Tryz.underlying71 (by kernel_rfl) (by kernel_rfl)
theorem QCk:BI Tryz.prog 97 [(0,1),(1,1)] [(.string ByteArray.empty),(.int .i64 0)]:=JQ Tryz.underlying97 (by kernel_rfl) (by kernel_rfl)
theorem Qji:BI Tryz.prog 99 [(0,1),(1,1),(2,1)] [(.string ByteArray.empty),(.slice none 0 0),(.slice none 0 0)]:=JQ Tryz.underlying99 (by kernel_rfl) (by kernel_rfl)
theorem Qgd:BI Tryz.prog 108 [(0,4),(4,3)] [(.slice none 0 0),(.slice none 0 0),(.slice none 0 0),(.slice none 0 0),(.slice none 0 0),(.slice none 0 0),(.int .i64 0)]:=JQ Tryz.underlying108 (by kernel_rfl) (by kernel_rfl)
theorem QCi:BI Tryz.prog 135 [(0,1),(1,1)] [(.map none),(.slice none 0 0)]:=JQ Tryz.underlying135 (by kernel_rfl) (by kernel_rfl)
theorem Qtn:BI Tryz.prog 166 [(0,1),(1,1),(2,3)] [(.pointer none),(.pointer none),(.int .i64 0),(.int .i64 0),(.int .i64 0)]:=JQ Tryz.underlying166 (by kernel_rfl) (by kernel_rfl)
theorem QCj:BI Tryz.prog 182 [(0,3),(3,1)] [(.int .i64 0),(.int .i64 0),(.int .i64 0),(.pointer none)]:=JQ Tryz.underlying182 (by kernel_rfl) (by kernel_rfl)
theorem Jf:ZI Tryz.prog 26 [(.slice none 0 0),(.slice none 0 0),(.slice none 0 0),(.slice none 0 0)]:=Zq (by kernel_rfl)
theorem Zh:ZI Tryz.prog 30 [(.slice none 0 0),(.slice none 0 0),(.int .i64 0)]:=Zq (by kernel_rfl)
theorem Qiw:ZI Tryz.prog 32 [(.int .i64 0),(.int .i64 0),(.int .i64 0)]:=Zq (by kernel_rfl)
theorem Ju:ZI Tryz.prog 34 [(.int .i64 0),(.int .i64 0),(.int .i64 0),(.int .i64 0),(.int .i64 0)]:=Zq (by kernel_rfl)
theorem Qso:ZI Tryz.prog 41 [(.int .i64 0),(.int .i64 0),(.int .i64 0),(.int .i64 0),(.int .i64 0),(.int .i64 0),(.int .i64 0),(.int .i64 0),(.int .i64 0),(.int .i64 0),(.int .i64 0),(.int .i64 0),(.int .i64 0),(.int .i64 0),(.int .i64 0)]:=Zq (by kernel_rfl)
theorem Qix:ZI Tryz.prog 61 [(.slice none 0 0),(.int .i64 0)]:=Zq (by kernel_rfl)
theorem QUt:ZI Tryz.prog 67 [(.int .i64 0),(.int .i64 0)]:=Zq (by kernel_rfl)
theorem Jv:ZI Tryz.prog 71 [(.int .i64 0),(.int .i64 0)]:=Zq (by kernel_rfl)
theorem Qsp:ZI Tryz.prog 97 [(.string ByteArray.empty),(.int .i64 0)]:=Zq (by kernel_rfl)
theorem Qdw:ZI Tryz.prog 99 [(.string ByteArray.empty),(.slice none 0 0),(.slice none 0 0)]:=Zq (by kernel_rfl)
theorem QUn:ZI Tryz.prog 126 [.nilFunc,.nilFunc,.nilFunc,.nilFunc]:=Zq (by kernel_rfl)
theorem QBa:ZI Tryz.prog 139 [(.pointer none),(.slice none 0 0)]:=Zq (by kernel_rfl)
theorem QUo:ZI Tryz.prog 167 [(.slice none 0 0)]:=Zq (by kernel_rfl)
theorem QUp:ZI Tryz.prog 179 [(.slice none 0 0)]:=Zq (by kernel_rfl)
theorem QUq:ZI Tryz.prog 182 [(.int .i64 0),(.int .i64 0),(.int .i64 0),(.pointer none)]:=Zq (by kernel_rfl)
theorem nm6:(Tryz.f6.name == numgo)=false:=by kernel_rfl
theorem nm7:(Tryz.f7.name == numgo)=false:=by kernel_rfl
theorem nm8:(Tryz.f8.name == numgo)=false:=by kernel_rfl
theorem nm9:(Tryz.f9.name == numgo)=false:=by kernel_rfl
theorem Qwk:(Tryz.f10.name == numgo)=false:=by kernel_rfl
theorem QKp:(Tryz.f11.name == numgo)=false:=by kernel_rfl
theorem QKx:(Tryz.f12.name == numgo)=false:=by kernel_rfl
theorem Qbz:(Tryz.f13.name == numgo)=false:=by kernel_rfl
theorem Qld:(Tryz.f14.name == numgo)=false:=by kernel_rfl
theorem Qev:(Tryz.f15.name == numgo)=false:=by kernel_rfl
theorem QLf:(Tryz.f16.name == numgo)=false:=by kernel_rfl
theorem QLi:(Tryz.f18.name == numgo)=false:=by kernel_rfl
theorem QLj:(Tryz.f22.name == numgo)=false:=by kernel_rfl
theorem QLk:(Tryz.f23.name == numgo)=false:=by kernel_rfl
theorem QLl:(Tryz.f24.name == numgo)=false:=by kernel_rfl
theorem Qwm:(Tryz.f29.name == numgo)=false:=by kernel_rfl
theorem Qwn:(Tryz.f31.name == numgo)=false:=by kernel_rfl
theorem QLm:(Tryz.f32.name == numgo)=false:=by kernel_rfl
theorem QLn:(Tryz.f33.name == numgo)=false:=by kernel_rfl
theorem Qqb:(Tryz.f34.name == numgo)=false:=by kernel_rfl
theorem Zy:(Tryz.f35.name == numgo)=false:=by kernel_rfl
theorem XS:(Tryz.f36.name == numgo)=false:=by kernel_rfl
theorem Qqc:(Tryz.f37.name == numgo)=false:=by kernel_rfl
theorem Qhg:(Tryz.f38.name == numgo)=false:=by kernel_rfl
theorem Qwo:(Tryz.f39.name == numgo)=false:=by kernel_rfl
theorem QLo:(Tryz.f40.name == numgo)=false:=by kernel_rfl
theorem Qwp:(Tryz.f41.name == numgo)=false:=by kernel_rfl
theorem QLp:(Tryz.f42.name == numgo)=false:=by kernel_rfl
theorem Qwq:(Tryz.f43.name == numgo)=false:=by kernel_rfl
theorem ZJ:(Tryz.f44.name == numgo)=false:=by kernel_rfl
theorem Qhh:(Tryz.f45.name == numgo)=false:=by kernel_rfl
theorem Qle:(Tryz.f46.name == numgo)=false:=by kernel_rfl
theorem Qwr:(Tryz.f47.name == numgo)=false:=by kernel_rfl
theorem Qws:(Tryz.f48.name == numgo)=false:=by kernel_rfl
theorem Qqd:(Tryz.f49.name == numgo)=false:=by kernel_rfl
theorem Qwt:(Tryz.f50.name == numgo)=false:=by kernel_rfl
theorem Qlf:(Tryz.f53.name == numgo)=false:=by kernel_rfl
theorem QLq:(Tryz.f54.name == numgo)=false:=by kernel_rfl
theorem Qdg:(Tryz.f55.name == numgo)=false:=by kernel_rfl
theorem QLr:(Tryz.f56.name == numgo)=false:=by kernel_rfl
theorem QLs:(Tryz.f57.name == numgo)=false:=by kernel_rfl
theorem QLt:(Tryz.f58.name == numgo)=false:=by kernel_rfl
theorem QLu:(Tryz.f59.name == numgo)=false:=by kernel_rfl
theorem Qwu:(Tryz.f60.name == numgo)=false:=by kernel_rfl
theorem QLv:(Tryz.f61.name == numgo)=false:=by kernel_rfl
theorem QLw:(Tryz.f62.name == numgo)=false:=by kernel_rfl
theorem QLx:(Tryz.f63.name == numgo)=false:=by kernel_rfl
theorem QLy:(Tryz.f64.name == numgo)=false:=by kernel_rfl
theorem QLz:(Tryz.f65.name == numgo)=false:=by kernel_rfl
theorem QMa:(Tryz.f66.name == numgo)=false:=by kernel_rfl
theorem QMb:(Tryz.f67.name == numgo)=false:=by kernel_rfl
theorem QMc:(Tryz.f68.name == numgo)=false:=by kernel_rfl
theorem QMd:(Tryz.f69.name == numgo)=false:=by kernel_rfl
theorem QMe:(Tryz.f70.name == numgo)=false:=by kernel_rfl
theorem QMf:(Tryz.f71.name == numgo)=false:=by kernel_rfl
theorem QMg:(Tryz.f72.name == numgo)=false:=by kernel_rfl
theorem Qwv:(Tryz.f73.name == numgo)=false:=by kernel_rfl
theorem QMh:(Tryz.f78.name == numgo)=false:=by kernel_rfl
theorem QMi:(Tryz.f79.name == numgo)=false:=by kernel_rfl
theorem Qdh:(Tryz.f80.name == numgo)=false:=by kernel_rfl
theorem Qew:(Tryz.f81.name == numgo)=false:=by kernel_rfl
theorem Qqe:(Tryz.f82.name == numgo)=false:=by kernel_rfl
theorem Qww:(Tryz.f83.name == numgo)=false:=by kernel_rfl
theorem Qbb:(Tryz.f84.name == numgo)=false:=by kernel_rfl
theorem QMj:(Tryz.f85.name == numgo)=false:=by kernel_rfl
theorem QMk:(Tryz.f86.name == numgo)=false:=by kernel_rfl
theorem QMl:(Tryz.f87.name == numgo)=false:=by kernel_rfl
theorem QMm:(Tryz.f88.name == numgo)=false:=by kernel_rfl
theorem Qqf:(Tryz.f89.name == numgo)=false:=by kernel_rfl
theorem QMn:(Tryz.f90.name == numgo)=false:=by kernel_rfl
theorem QMo:(Tryz.f91.name == numgo)=false:=by kernel_rfl
theorem Qlg:(Tryz.f92.name == numgo)=false:=by kernel_rfl
theorem Qlh:(Tryz.f93.name == numgo)=false:=by kernel_rfl
theorem Qex:(Tryz.f94.name == numgo)=false:=by kernel_rfl
theorem Qwx:(Tryz.f95.name == numgo)=false:=by kernel_rfl
theorem QMp:(Tryz.f96.name == numgo)=false:=by kernel_rfl
theorem Qli:(Tryz.f97.name == numgo)=false:=by kernel_rfl
theorem Qwy:(Tryz.f98.name == numgo)=false:=by kernel_rfl
theorem QMq:(Tryz.f99.name == numgo)=false:=by kernel_rfl
theorem QKl:(Tryz.f100.name == numgo)=false:=by kernel_rfl
theorem QKm:(Tryz.f101.name == numgo)=false:=by kernel_rfl
theorem Qqa:(Tryz.f102.name == numgo)=false:=by kernel_rfl
theorem QKn:(Tryz.f103.name == numgo)=false:=by kernel_rfl
theorem QKo:(Tryz.f104.name == numgo)=false:=by kernel_rfl
theorem QKq:(Tryz.f113.name == numgo)=false:=by kernel_rfl
theorem QKr:(Tryz.f114.name == numgo)=false:=by kernel_rfl
theorem QKs:(Tryz.f115.name == numgo)=false:=by kernel_rfl
theorem QKt:(Tryz.f116.name == numgo)=false:=by kernel_rfl
theorem QKu:(Tryz.f117.name == numgo)=false:=by kernel_rfl
theorem QKv:(Tryz.f118.name == numgo)=false:=by kernel_rfl
theorem QKw:(Tryz.f119.name == numgo)=false:=by kernel_rfl
theorem QKy:(Tryz.f120.name == numgo)=false:=by kernel_rfl
theorem QKz:(Tryz.f129.name == numgo)=false:=by kernel_rfl
theorem Qwl:(Tryz.f130.name == numgo)=false:=by kernel_rfl
theorem QLa:(Tryz.f131.name == numgo)=false:=by kernel_rfl
theorem QLb:(Tryz.f145.name == numgo)=false:=by kernel_rfl
theorem QLc:(Tryz.f152.name == numgo)=false:=by kernel_rfl
theorem QLd:(Tryz.f154.name == numgo)=false:=by kernel_rfl
theorem QLe:(Tryz.f155.name == numgo)=false:=by kernel_rfl
theorem QLg:(Tryz.f165.name == numgo)=false:=by kernel_rfl
theorem QLh:(Tryz.f167.name == numgo)=false:=by kernel_rfl
theorem Qjr:Tryz.prog.eqGuardType Tryz.prog.depth 34=false:=by kernel_rfl
theorem Qjs (a b:Nd):EqS Tryz.prog 34 (List.toArray [(.int .i64 a.e0),(.int .i64 a.e1),(.int .i64 a.e2),(.int .i64 a.e3),(.int .i64 a.e4)]) (List.toArray [(.int .i64 b.e0),(.int .i64 b.e1),(.int .i64 b.e2),(.int .i64 b.e3),(.int .i64 b.e4)]) (decide (a=b)):=by
  refine ⟨by intro c hc;simp at hc;(repeat' (rcases hc with rfl | hc));all_goals (first | rfl | (subst hc;rfl) | simp_all [Qef]),fun w=>?_⟩
  have u3:=Tryz.underlying3
  have a3:=Tryz.isAgg3
  have z3:=Tryz.sizeOf3
  rw [Op.equalIn]
  simp only [Sem.run_bind,run_underlying Tryz.underlying34,Result.andThen_ok]
  simp only [Std.Legacy.Range.forIn_eq_forIn_range',Std.Legacy.Range.size,Nat.sub_zero,Nat.add_sub_cancel,Nat.div_one,List.range'_succ,List.range'_zero,List.forIn_cons,List.forIn_nil]
  go_simp
  cases a;cases b;simp only [Nd.mk.injEq]
  repeat' split
  all_goals simp_all
theorem XF:Tryz.prog.follows .mixedOrders=true:=by kernel_rfl
end Go.Gw
