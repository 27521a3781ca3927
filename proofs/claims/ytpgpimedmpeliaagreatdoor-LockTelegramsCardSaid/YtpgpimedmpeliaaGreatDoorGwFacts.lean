/- Facts of the types of the program. No condition. -/
import Derived.Test.YtpgpimedmpeliaaGreatDoorGwSt
import Derived.Test.YtpgpimedmpeliaaGreatDoorGwLib6
import Derived.Laws.StructEq
import Derived.Test.YtpgpimedmpeliaaGreatDoorProg
set_option linter.unusedVariables false
set_option linter.unusedSimpArgs false
set_option linter.unusedSectionVars false
set_option maxRecDepth 100000
namespace Go.Gw
open Go Go.Proofs
abbrev numgo : String := "runtime.NumGoroutine"
theorem QF:Q3 Tryz.prog 3 1:=XH (by kernel_rfl)
theorem sz5:Q3 Tryz.prog 5 1:=XH (by kernel_rfl)
theorem ZP:Q3 Tryz.prog 9 1:=XH (by kernel_rfl)
theorem Y4:Q3 Tryz.prog 22 1:=XH (by kernel_rfl)
theorem ZN:Q3 Tryz.prog 23 1:=XH (by kernel_rfl)
theorem JP:Q3 Tryz.prog 24 1:=XH (by kernel_rfl)
theorem Qak:Q3 Tryz.prog 26 4:=XH (by kernel_rfl)
theorem QIw:Q3 Tryz.prog 30 1:=XH (by kernel_rfl)
theorem Ye:Q3 Tryz.prog 37 2:=XH (by kernel_rfl)
theorem XO:Q3 Tryz.prog 43 1:=XH (by kernel_rfl)
theorem JQ:Q3 Tryz.prog 49 2:=XH (by kernel_rfl)
theorem YG:Q3 Tryz.prog 55 3:=XH (by kernel_rfl)
theorem XV:Q3 Tryz.prog 57 5:=XH (by kernel_rfl)
theorem ZO:Q3 Tryz.prog 71 1:=XH (by kernel_rfl)
theorem X5:Q3 Tryz.prog 73 3:=XH (by kernel_rfl)
theorem Jl:Q3 Tryz.prog 93 2:=XH (by kernel_rfl)
theorem ZM:Q3 Tryz.prog 103 3:=XH (by kernel_rfl)
theorem Z4:Q3 Tryz.prog 140 2:=XH (by kernel_rfl)
theorem Qsh:Q3 Tryz.prog 144 1:=XH (by kernel_rfl)
theorem Qdy:Q3 Tryz.prog 147 1:=XH (by kernel_rfl)
theorem Jk:Q3 Tryz.prog 148 1:=XH (by kernel_rfl)
theorem Qdz:Q3 Tryz.prog 160 1:=XH (by kernel_rfl)
theorem Qsi:Q3 Tryz.prog 178 1:=XH (by kernel_rfl)
theorem Qsj:Q3 Tryz.prog 187 1:=XH (by kernel_rfl)
theorem Qsk:Q3 Tryz.prog 190 4:=XH (by kernel_rfl)
theorem QIu:Q3 Tryz.prog 192 1:=XH (by kernel_rfl)
theorem QIv:Q3 Tryz.prog 220 1:=XH (by kernel_rfl)
theorem QR:X1 Tryz.prog 3:=⟨_,Tryz.underlying3,trivial⟩
theorem sc5:X1 Tryz.prog 5:=⟨_,Tryz.underlying5,trivial⟩
theorem JL:X1 Tryz.prog 9:=⟨_,Tryz.underlying9,trivial⟩
theorem Y3:X1 Tryz.prog 22:=⟨_,Tryz.underlying22,trivial⟩
theorem ZH:X1 Tryz.prog 23:=⟨_,Tryz.underlying23,trivial⟩
theorem JK:X1 Tryz.prog 24:=⟨_,Tryz.underlying24,trivial⟩
theorem QGu:X1 Tryz.prog 30:=⟨_,Tryz.underlying30,trivial⟩
theorem XT:X1 Tryz.prog 43:=⟨_,Tryz.underlying43,trivial⟩
theorem Qah:X1 Tryz.prog 71:=⟨_,Tryz.underlying71,trivial⟩
theorem Qdj:X1 Tryz.prog 144:=⟨_,Tryz.underlying144,trivial⟩
theorem Qdk:X1 Tryz.prog 147:=⟨_,Tryz.underlying147,trivial⟩
theorem Qdl:X1 Tryz.prog 148:=⟨_,Tryz.underlying148,trivial⟩
theorem Qgo:X1 Tryz.prog 160:=⟨_,Tryz.underlying160,trivial⟩
theorem Qrh:X1 Tryz.prog 178:=⟨_,Tryz.underlying178,trivial⟩
theorem Qdm:X1 Tryz.prog 187:=⟨_,Tryz.underlying187,trivial⟩
theorem QGs:X1 Tryz.prog 192:=⟨_,Tryz.underlying192,trivial⟩
theorem QGt:X1 Tryz.prog 220:=⟨_,Tryz.underlying220,trivial⟩
theorem Yz:Aggr Tryz.prog 26 4:=ZB (by trivial) Tryz.underlying26 (by kernel_rfl)
theorem Yg:Aggr Tryz.prog 37 2:=ZB (by trivial) Tryz.underlying37 (by kernel_rfl)
theorem Qep:Aggr Tryz.prog 49 2:=ZB (by trivial) Tryz.underlying49 (by kernel_rfl)
theorem Yh:Aggr Tryz.prog 55 3:=ZB (by trivial) Tryz.underlying55 (by kernel_rfl)
theorem XA:Aggr Tryz.prog 57 5:=ZB (by trivial) Tryz.underlying57 (by kernel_rfl)
theorem Qht:Aggr Tryz.prog 58 15:=ZB (by trivial) Tryz.underlying58 (by kernel_rfl)
theorem Zn:Aggr Tryz.prog 73 3:=ZB (by trivial) Tryz.underlying73 (by kernel_rfl)
theorem Qeq:Aggr Tryz.prog 93 2:=ZB (by trivial) Tryz.underlying93 (by kernel_rfl)
theorem J4:Aggr Tryz.prog 103 3:=ZB (by trivial) Tryz.underlying103 (by kernel_rfl)
theorem Qcn:Aggr Tryz.prog 140 2:=ZB (by trivial) Tryz.underlying140 (by kernel_rfl)
theorem Qun:Aggr Tryz.prog 190 4:=ZB (by trivial) Tryz.underlying190 (by kernel_rfl)
theorem Yw:EInfo Tryz.prog 3 1 8 (.int .i64 0):=YX (by kernel_rfl) rfl (by decide)
theorem Zq:EInfo Tryz.prog 9 1 16 (.string ByteArray.empty):=YX (by kernel_rfl) rfl (by decide)
theorem YN:EInfo Tryz.prog 30 1 8 (.int .i64 0):=YX (by kernel_rfl) rfl (by decide)
theorem Qwt:EInfo Tryz.prog 43 1 24 (.slice none 0 0):=YX (by kernel_rfl) rfl (by decide)
theorem Qmx:EInfo Tryz.prog 49 2 16 (.agg (List.toArray [(.int .i64 0),(.int .i64 0)])):=YX (by kernel_rfl) rfl (by decide)
theorem Qwu:EInfo Tryz.prog 55 3 24 (.agg (List.toArray [(.int .i64 0),(.int .i64 0),(.int .i64 0)])):=YX (by kernel_rfl) rfl (by decide)
theorem Qmy:EInfo Tryz.prog 57 5 40 (.agg (List.toArray [(.int .i64 0),(.int .i64 0),(.int .i64 0),(.int .i64 0),(.int .i64 0)])):=YX (by kernel_rfl) rfl (by decide)
theorem Qba:EInfo Tryz.prog 93 2 32 (.agg (List.toArray [(.slice none 0 0),(.int .i64 0)])):=YX (by kernel_rfl) rfl (by decide)
theorem Qwp:EInfo Tryz.prog 103 3 64 (.agg (List.toArray [(.string ByteArray.empty),(.slice none 0 0),(.slice none 0 0)])):=YX (by kernel_rfl) rfl (by decide)
theorem Qwq:EInfo Tryz.prog 140 2 24 (.agg (List.toArray [(.string ByteArray.empty),(.int .i64 0)])):=YX (by kernel_rfl) rfl (by decide)
theorem Qwr:EInfo Tryz.prog 178 1 24 (.slice none 0 0):=YX (by kernel_rfl) rfl (by decide)
theorem Qws:EInfo Tryz.prog 187 1 24 (.slice none 0 0):=YX (by kernel_rfl) rfl (by decide)
theorem Qmw:EInfo Tryz.prog 190 4 32 (.agg (List.toArray [(.int .i64 0),(.int .i64 0),(.int .i64 0),(.pointer none)])):=YX (by kernel_rfl) rfl (by decide)
theorem Qij:EInfo Tryz.prog 192 1 8 (.pointer none):=YX (by kernel_rfl) rfl (by decide)
theorem Qmg:BI Tryz.prog 26 [(0,1),(1,1),(2,1),(3,1)] [(.slice none 0 0),(.slice none 0 0),(.slice none 0 0),(.slice none 0 0)]:=ZC Tryz.underlying26 (by kernel_rfl) (by kernel_rfl)
theorem Ju:BI Tryz.prog 37 [(0,1),(1,1)] [(.int .i64 0),(.int .i64 0)]:=ZC Tryz.underlying37 (by kernel_rfl) (by kernel_rfl)
theorem ZU:BI Tryz.prog 55 [(0,1),(1,1),(2,1)] [(.int .i64 0),(.int .i64 0),(.int .i64 0)]:=ZC Tryz.underlying55 (by kernel_rfl) (by kernel_rfl)
theorem Qay:BI Tryz.prog 73 [(0,1),(1,1),(2,1)] [(.slice none 0 0),(.slice none 0 0),(.int .i64 0)]:=ZC Tryz.underlying73 (by kernel_rfl) (by kernel_rfl)
theorem Qmh:BI Tryz.prog 93 [(0,1),(1,1)] [(.slice none 0 0),(.int .i64 0)]:=ZC Tryz.underlying93 (by kernel_rfl) (by kernel_rfl)
theorem Qhy:BI Tryz.prog 103 [(0,1),(1,1),(2,1)] [(.string ByteArray.empty),(.slice none 0 0),(.slice none 0 0)]:=ZC Tryz.underlying103 (by kernel_rfl) (by kernel_rfl)
theorem Qvb:BI Tryz.prog 140 [(0,1),(1,1)] [(.string ByteArray.empty),(.int .i64 0)]:=ZC Tryz.underlying140 (by kernel_rfl) (by kernel_rfl)
theorem Qeu:BI Tryz.prog 146 [(0,4),(4,3)] [(.slice none 0 0),(.slice none 0 0),(.slice none 0 0),(.slice none 0 0),(.slice none 0 0),(.slice none 0 0),(.int .i64 0)]:=ZC Tryz.underlying146 (by kernel_rfl) (by kernel_rfl)
theorem Qvc:BI Tryz.prog 150 [(0,1),(1,1)] [(.map none),(.slice none 0 0)]:=ZC Tryz.underlying150 (by kernel_rfl) (by kernel_rfl)
theorem Qvd:BI Tryz.prog 190 [(0,3),(3,1)] [(.int .i64 0),(.int .i64 0),(.int .i64 0),(.pointer none)]:=ZC Tryz.underlying190 (by kernel_rfl) (by kernel_rfl)
theorem Qmf:BI Tryz.prog 194 [(0,1),(1,1),(2,3)] [(.pointer none),(.pointer none),(.int .i64 0),(.int .i64 0),(.int .i64 0)]:=ZC Tryz.underlying194 (by kernel_rfl) (by kernel_rfl)
theorem QLu:ZI Tryz.prog 26 [(.slice none 0 0),(.slice none 0 0),(.slice none 0 0),(.slice none 0 0)]:=YB (by kernel_rfl)
theorem Zm:ZI Tryz.prog 37 [(.int .i64 0),(.int .i64 0)]:=YB (by kernel_rfl)
theorem QLw:ZI Tryz.prog 49 [(.int .i64 0),(.int .i64 0)]:=YB (by kernel_rfl)
theorem JU:ZI Tryz.prog 55 [(.int .i64 0),(.int .i64 0),(.int .i64 0)]:=YB (by kernel_rfl)
theorem Yf:ZI Tryz.prog 57 [(.int .i64 0),(.int .i64 0),(.int .i64 0),(.int .i64 0),(.int .i64 0)]:=YB (by kernel_rfl)
theorem Qcg:ZI Tryz.prog 73 [(.slice none 0 0),(.slice none 0 0),(.int .i64 0)]:=YB (by kernel_rfl)
theorem Qlo:ZI Tryz.prog 93 [(.slice none 0 0),(.int .i64 0)]:=YB (by kernel_rfl)
theorem Qej:ZI Tryz.prog 103 [(.string ByteArray.empty),(.slice none 0 0),(.slice none 0 0)]:=YB (by kernel_rfl)
theorem Qln:ZI Tryz.prog 140 [(.string ByteArray.empty),(.int .i64 0)]:=YB (by kernel_rfl)
theorem QLp:ZI Tryz.prog 167 [.nilFunc,.nilFunc,.nilFunc,.nilFunc]:=YB (by kernel_rfl)
theorem QLq:ZI Tryz.prog 187 [(.slice none 0 0)]:=YB (by kernel_rfl)
theorem QLr:ZI Tryz.prog 190 [(.int .i64 0),(.int .i64 0),(.int .i64 0),(.pointer none)]:=YB (by kernel_rfl)
theorem Qtw:ZI Tryz.prog 202 [(.pointer none),(.slice none 0 0)]:=YB (by kernel_rfl)
theorem QLt:ZI Tryz.prog 220 [(.slice none 0 0)]:=YB (by kernel_rfl)
theorem QDy:(Tryz.f21.name == numgo)=false:=by kernel_rfl
theorem QEh:(Tryz.f25.name == numgo)=false:=by kernel_rfl
theorem QEi:(Tryz.f28.name == numgo)=false:=by kernel_rfl
theorem QEj:(Tryz.f29.name == numgo)=false:=by kernel_rfl
theorem Qpq:(Tryz.f36.name == numgo)=false:=by kernel_rfl
theorem QEk:(Tryz.f37.name == numgo)=false:=by kernel_rfl
theorem Qpr:(Tryz.f38.name == numgo)=false:=by kernel_rfl
theorem Qps:(Tryz.f39.name == numgo)=false:=by kernel_rfl
theorem QEl:(Tryz.f40.name == numgo)=false:=by kernel_rfl
theorem QEm:(Tryz.f41.name == numgo)=false:=by kernel_rfl
theorem QEn:(Tryz.f49.name == numgo)=false:=by kernel_rfl
theorem Qjv:(Tryz.f74.name == numgo)=false:=by kernel_rfl
theorem Qpt:(Tryz.f83.name == numgo)=false:=by kernel_rfl
theorem Qpu:(Tryz.f84.name == numgo)=false:=by kernel_rfl
theorem QEo:(Tryz.f85.name == numgo)=false:=by kernel_rfl
theorem Qjw:(Tryz.f86.name == numgo)=false:=by kernel_rfl
theorem QEp:(Tryz.f87.name == numgo)=false:=by kernel_rfl
theorem Qpv:(Tryz.f88.name == numgo)=false:=by kernel_rfl
theorem QEq:(Tryz.f89.name == numgo)=false:=by kernel_rfl
theorem YQ:(Tryz.f93.name == numgo)=false:=by kernel_rfl
theorem XG:(Tryz.f94.name == numgo)=false:=by kernel_rfl
theorem QEr:(Tryz.f95.name == numgo)=false:=by kernel_rfl
theorem Qpw:(Tryz.f96.name == numgo)=false:=by kernel_rfl
theorem QEs:(Tryz.f97.name == numgo)=false:=by kernel_rfl
theorem QEt:(Tryz.f98.name == numgo)=false:=by kernel_rfl
theorem QEu:(Tryz.f99.name == numgo)=false:=by kernel_rfl
theorem QCn:(Tryz.f100.name == numgo)=false:=by kernel_rfl
theorem QCo:(Tryz.f101.name == numgo)=false:=by kernel_rfl
theorem QCp:(Tryz.f102.name == numgo)=false:=by kernel_rfl
theorem QCq:(Tryz.f103.name == numgo)=false:=by kernel_rfl
theorem QCr:(Tryz.f104.name == numgo)=false:=by kernel_rfl
theorem QCs:(Tryz.f105.name == numgo)=false:=by kernel_rfl
theorem QCt:(Tryz.f106.name == numgo)=false:=by kernel_rfl
theorem QCu:(Tryz.f107.name == numgo)=false:=by kernel_rfl
theorem QCv:(Tryz.f108.name == numgo)=false:=by kernel_rfl
theorem Qjq:(Tryz.f109.name == numgo)=false:=by kernel_rfl
theorem QCw:(Tryz.f110.name == numgo)=false:=by kernel_rfl
theorem Qda:(Tryz.f111.name == numgo)=false:=by kernel_rfl
theorem QCx:(Tryz.f112.name == numgo)=false:=by kernel_rfl
theorem QCy:(Tryz.f113.name == numgo)=false:=by kernel_rfl
theorem QCz:(Tryz.f114.name == numgo)=false:=by kernel_rfl
theorem QDa:(Tryz.f115.name == numgo)=false:=by kernel_rfl
theorem Qjr:(Tryz.f120.name == numgo)=false:=by kernel_rfl
theorem Qfv:(Tryz.f121.name == numgo)=false:=by kernel_rfl
theorem Qpj:(Tryz.f122.name == numgo)=false:=by kernel_rfl
theorem Qfw:(Tryz.f123.name == numgo)=false:=by kernel_rfl
theorem Qpk:(Tryz.f124.name == numgo)=false:=by kernel_rfl
theorem Qpl:(Tryz.f125.name == numgo)=false:=by kernel_rfl
theorem QDb:(Tryz.f126.name == numgo)=false:=by kernel_rfl
theorem QDc:(Tryz.f127.name == numgo)=false:=by kernel_rfl
theorem QDd:(Tryz.f130.name == numgo)=false:=by kernel_rfl
theorem Qpm:(Tryz.f131.name == numgo)=false:=by kernel_rfl
theorem QDe:(Tryz.f132.name == numgo)=false:=by kernel_rfl
theorem Qfx:(Tryz.f135.name == numgo)=false:=by kernel_rfl
theorem QDf:(Tryz.f138.name == numgo)=false:=by kernel_rfl
theorem QDg:(Tryz.f140.name == numgo)=false:=by kernel_rfl
theorem Qbk:(Tryz.f141.name == numgo)=false:=by kernel_rfl
theorem Qae:(Tryz.f143.name == numgo)=false:=by kernel_rfl
theorem Qjs:(Tryz.f144.name == numgo)=false:=by kernel_rfl
theorem Qpn:(Tryz.f145.name == numgo)=false:=by kernel_rfl
theorem Qjt:(Tryz.f163.name == numgo)=false:=by kernel_rfl
theorem QDh:(Tryz.f164.name == numgo)=false:=by kernel_rfl
theorem QDi:(Tryz.f165.name == numgo)=false:=by kernel_rfl
theorem JH:(Tryz.f166.name == numgo)=false:=by kernel_rfl
theorem Qpo:(Tryz.f167.name == numgo)=false:=by kernel_rfl
theorem Qju:(Tryz.f168.name == numgo)=false:=by kernel_rfl
theorem QDj:(Tryz.f169.name == numgo)=false:=by kernel_rfl
theorem QDk:(Tryz.f170.name == numgo)=false:=by kernel_rfl
theorem QDl:(Tryz.f171.name == numgo)=false:=by kernel_rfl
theorem QDm:(Tryz.f172.name == numgo)=false:=by kernel_rfl
theorem QDn:(Tryz.f174.name == numgo)=false:=by kernel_rfl
theorem QDo:(Tryz.f175.name == numgo)=false:=by kernel_rfl
theorem QDp:(Tryz.f176.name == numgo)=false:=by kernel_rfl
theorem Qfy:(Tryz.f179.name == numgo)=false:=by kernel_rfl
theorem Qbl:(Tryz.f180.name == numgo)=false:=by kernel_rfl
theorem QDq:(Tryz.f181.name == numgo)=false:=by kernel_rfl
theorem QDr:(Tryz.f182.name == numgo)=false:=by kernel_rfl
theorem QDs:(Tryz.f183.name == numgo)=false:=by kernel_rfl
theorem QDt:(Tryz.f184.name == numgo)=false:=by kernel_rfl
theorem QDu:(Tryz.f185.name == numgo)=false:=by kernel_rfl
theorem QDv:(Tryz.f186.name == numgo)=false:=by kernel_rfl
theorem QDw:(Tryz.f187.name == numgo)=false:=by kernel_rfl
theorem QDx:(Tryz.f189.name == numgo)=false:=by kernel_rfl
theorem QDz:(Tryz.f213.name == numgo)=false:=by kernel_rfl
theorem QEa:(Tryz.f214.name == numgo)=false:=by kernel_rfl
theorem QEb:(Tryz.f223.name == numgo)=false:=by kernel_rfl
theorem Qpp:(Tryz.f224.name == numgo)=false:=by kernel_rfl
theorem QEc:(Tryz.f226.name == numgo)=false:=by kernel_rfl
theorem QEd:(Tryz.f227.name == numgo)=false:=by kernel_rfl
theorem QEe:(Tryz.f228.name == numgo)=false:=by kernel_rfl
theorem QEf:(Tryz.f229.name == numgo)=false:=by kernel_rfl
theorem QEg:(Tryz.f248.name == numgo)=false:=by kernel_rfl
theorem Qmv:Tryz.prog.eqGuardType Tryz.prog.depth 55=false:=by kernel_rfl
theorem Qmz (a b:LockEvent):EqS Tryz.prog 55 (List.toArray [(.int .i64 a.Kind),(.int .i64 a.A),(.int .i64 a.B)]) (List.toArray [(.int .i64 b.Kind),(.int .i64 b.A),(.int .i64 b.B)]) (decide (a=b)):=by
  refine ⟨fun c hc=>by
    simp at hc
    repeat' (rcases hc with rfl | hc)
    all_goals simp_all [J9],fun w=>?_⟩
  have u3:=Tryz.underlying3
  have a3:=Tryz.isAgg3
  have z3:=Tryz.sizeOf3
  have hS:Tryz.prog.underlying 55=some (.struct (Tryz.prog.fieldsOf 55)):=by kernel_rfl
  have hp:Tryz.prog.stoodInHeld 55=false:=by kernel_rfl
  rw [run_equalIn_agg w 9999 55 _ _ hS hp]
  simp only [Program.fieldsOf,Tryz.underlying55]
  go_simp
  cases a;cases b;simp only [LockEvent.mk.injEq]
  repeat' split
  all_goals simp_all [Qvh]
theorem Qaz:Tryz.prog.eqGuardType Tryz.prog.depth 57=false:=by kernel_rfl
theorem Qbc (a b:Arr5_Int):EqS Tryz.prog 57 (List.toArray [(.int .i64 a.e0),(.int .i64 a.e1),(.int .i64 a.e2),(.int .i64 a.e3),(.int .i64 a.e4)]) (List.toArray [(.int .i64 b.e0),(.int .i64 b.e1),(.int .i64 b.e2),(.int .i64 b.e3),(.int .i64 b.e4)]) (decide (a=b)):=by
  refine ⟨by intro c hc;simp at hc;(repeat' (rcases hc with rfl | hc));all_goals (first | rfl | (subst hc;rfl) | simp_all [J9]),fun w=>?_⟩
  have u3:=Tryz.underlying3
  have a3:=Tryz.isAgg3
  have z3:=Tryz.sizeOf3
  rw [Op.equalIn]
  simp only [Sem.run_bind,run_underlying Tryz.underlying57,Result.andThen_ok]
  simp only [Std.Legacy.Range.forIn_eq_forIn_range',Std.Legacy.Range.size,Nat.sub_zero,Nat.add_sub_cancel,Nat.div_one,List.range'_succ,List.range'_zero,List.forIn_cons,List.forIn_nil]
  go_simp
  cases a;cases b;simp only [Arr5_Int.mk.injEq]
  repeat' split
  all_goals simp_all
theorem Xt:Tryz.prog.follows .mixedOrders=true:=by kernel_rfl
end Go.Gw
