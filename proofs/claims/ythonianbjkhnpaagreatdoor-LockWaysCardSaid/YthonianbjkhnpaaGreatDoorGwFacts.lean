/- Facts of the types of the program. No condition. -/
import Derived.Test.YthonianbjkhnpaaGreatDoorGwSt
import Derived.Test.YthonianbjkhnpaaGreatDoorGwLib5
import Derived.Laws.StructEq
import Derived.Test.YthonianbjkhnpaaGreatDoorProg
set_option linter.unusedVariables false
set_option linter.unusedSimpArgs false
set_option linter.unusedSectionVars false
set_option maxRecDepth 100000
namespace Go.Gw
open Go Go.Proofs
abbrev numgo : String := "runtime.NumGoroutine"
theorem QH:Xr Tryz.prog 3 1:=Yv (by kernel_rfl)
theorem J3:Xr Tryz.prog 5 1:=Yv (by kernel_rfl)
theorem Zc:Xr Tryz.prog 9 1:=Yv (by kernel_rfl)
theorem X8:Xr Tryz.prog 22 1:=Yv (by kernel_rfl)
theorem YJ:Xr Tryz.prog 23 1:=Yv (by kernel_rfl)
theorem Y0:Xr Tryz.prog 24 1:=Yv (by kernel_rfl)
theorem Zj:Xr Tryz.prog 26 4:=Yv (by kernel_rfl)
theorem QYl:Xr Tryz.prog 30 1:=Yv (by kernel_rfl)
theorem Q7:Xr Tryz.prog 36 1:=Yv (by kernel_rfl)
theorem Yr:Xr Tryz.prog 37 1:=Yv (by kernel_rfl)
theorem XF:Xr Tryz.prog 39 3:=Yv (by kernel_rfl)
theorem Qeh:Xr Tryz.prog 40 2:=Yv (by kernel_rfl)
theorem JN:Xr Tryz.prog 52 3:=Yv (by kernel_rfl)
theorem YD:Xr Tryz.prog 62 2:=Yv (by kernel_rfl)
theorem Qpw:Xr Tryz.prog 73 5:=Yv (by kernel_rfl)
theorem Z5:Xr Tryz.prog 78 2:=Yv (by kernel_rfl)
theorem Zk:Xr Tryz.prog 80 3:=Yv (by kernel_rfl)
theorem YU:Xr Tryz.prog 82 2:=Yv (by kernel_rfl)
theorem Qla:Xr Tryz.prog 88 1:=Yv (by kernel_rfl)
theorem Qei:Xr Tryz.prog 92 1:=Yv (by kernel_rfl)
theorem Ja:Xr Tryz.prog 93 1:=Yv (by kernel_rfl)
theorem Qky:Xr Tryz.prog 105 1:=Yv (by kernel_rfl)
theorem QFu:Xr Tryz.prog 138 1:=Yv (by kernel_rfl)
theorem QYk:Xr Tryz.prog 143 1:=Yv (by kernel_rfl)
theorem Qwi:Xr Tryz.prog 150 1:=Yv (by kernel_rfl)
theorem Qpv:Xr Tryz.prog 153 4:=Yv (by kernel_rfl)
theorem Qkz:Xr Tryz.prog 175 1:=Yv (by kernel_rfl)
theorem QP:Zd Tryz.prog 3:=⟨_,Tryz.underlying3,trivial⟩
theorem sc5:Zd Tryz.prog 5:=⟨_,Tryz.underlying5,trivial⟩
theorem Zt:Zd Tryz.prog 9:=⟨_,Tryz.underlying9,trivial⟩
theorem X7:Zd Tryz.prog 22:=⟨_,Tryz.underlying22,trivial⟩
theorem YI:Zd Tryz.prog 23:=⟨_,Tryz.underlying23,trivial⟩
theorem Y9:Zd Tryz.prog 24:=⟨_,Tryz.underlying24,trivial⟩
theorem QWq:Zd Tryz.prog 30:=⟨_,Tryz.underlying30,trivial⟩
theorem Xc:Zd Tryz.prog 36:=⟨_,Tryz.underlying36,trivial⟩
theorem YS:Zd Tryz.prog 37:=⟨_,Tryz.underlying37,trivial⟩
theorem Qee:Zd Tryz.prog 88:=⟨_,Tryz.underlying88,trivial⟩
theorem Qef:Zd Tryz.prog 92:=⟨_,Tryz.underlying92,trivial⟩
theorem Qce:Zd Tryz.prog 93:=⟨_,Tryz.underlying93,trivial⟩
theorem Qkp:Zd Tryz.prog 105:=⟨_,Tryz.underlying105,trivial⟩
theorem QEq:Zd Tryz.prog 138:=⟨_,Tryz.underlying138,trivial⟩
theorem QWp:Zd Tryz.prog 143:=⟨_,Tryz.underlying143,trivial⟩
theorem Qhi:Zd Tryz.prog 150:=⟨_,Tryz.underlying150,trivial⟩
theorem Qpm:Zd Tryz.prog 175:=⟨_,Tryz.underlying175,trivial⟩
theorem XT:Aggr Tryz.prog 26 4:=Qbw (by trivial) Tryz.underlying26 (by kernel_rfl)
theorem Xu:Aggr Tryz.prog 39 3:=Qbw (by trivial) Tryz.underlying39 (by kernel_rfl)
theorem Qga:Aggr Tryz.prog 40 2:=Qbw (by trivial) Tryz.underlying40 (by kernel_rfl)
theorem Jy:Aggr Tryz.prog 52 3:=Qbw (by trivial) Tryz.underlying52 (by kernel_rfl)
theorem Qaq:Aggr Tryz.prog 62 2:=Qbw (by trivial) Tryz.underlying62 (by kernel_rfl)
theorem Qid:Aggr Tryz.prog 73 5:=Qbw (by trivial) Tryz.underlying73 (by kernel_rfl)
theorem Qgb:Aggr Tryz.prog 78 2:=Qbw (by trivial) Tryz.underlying78 (by kernel_rfl)
theorem Qae:Aggr Tryz.prog 80 3:=Qbw (by trivial) Tryz.underlying80 (by kernel_rfl)
theorem YN:Aggr Tryz.prog 82 2:=Qbw (by trivial) Tryz.underlying82 (by kernel_rfl)
theorem Qxq:Aggr Tryz.prog 153 4:=Qbw (by trivial) Tryz.underlying153 (by kernel_rfl)
theorem Y7:EInfo Tryz.prog 3 1 8 (.int .i64 0):=JT (by kernel_rfl) rfl (by decide)
theorem ei5:EInfo Tryz.prog 5 1 1 (.int .u8 0):=JT (by kernel_rfl) rfl (by decide)
theorem Jo:EInfo Tryz.prog 9 1 16 (.string ByteArray.empty):=JT (by kernel_rfl) rfl (by decide)
theorem Jn:EInfo Tryz.prog 30 1 8 (.int .i64 0):=JT (by kernel_rfl) rfl (by decide)
theorem QKf:EInfo Tryz.prog 36 1 24 (.slice none 0 0):=JT (by kernel_rfl) rfl (by decide)
theorem Qrz:EInfo Tryz.prog 39 3 56 (.agg (List.toArray [(.slice none 0 0),(.slice none 0 0),(.int .i64 0)])):=JT (by kernel_rfl) rfl (by decide)
theorem Qzd:EInfo Tryz.prog 40 2 16 (.agg (List.toArray [(.int .i64 0),(.int .i64 0)])):=JT (by kernel_rfl) rfl (by decide)
theorem Qiv:EInfo Tryz.prog 52 3 24 (.agg (List.toArray [(.int .i64 0),(.int .i64 0),(.int .i64 0)])):=JT (by kernel_rfl) rfl (by decide)
theorem Qds:EInfo Tryz.prog 62 2 32 (.agg (List.toArray [(.slice none 0 0),(.int .i64 0)])):=JT (by kernel_rfl) rfl (by decide)
theorem Zg:EInfo Tryz.prog 78 2 24 (.agg (List.toArray [(.string ByteArray.empty),(.int .i64 0)])):=JT (by kernel_rfl) rfl (by decide)
theorem Qsa:EInfo Tryz.prog 80 3 64 (.agg (List.toArray [(.string ByteArray.empty),(.slice none 0 0),(.slice none 0 0)])):=JT (by kernel_rfl) rfl (by decide)
theorem Qiu:EInfo Tryz.prog 105 1 8 (.pointer none):=JT (by kernel_rfl) rfl (by decide)
theorem Qzb:EInfo Tryz.prog 150 1 24 (.slice none 0 0):=JT (by kernel_rfl) rfl (by decide)
theorem Qzc:EInfo Tryz.prog 153 4 32 (.agg (List.toArray [(.int .i64 0),(.int .i64 0),(.int .i64 0),(.pointer none)])):=JT (by kernel_rfl) rfl (by decide)
theorem Jj:BI Tryz.prog 26 [(0,1),(1,1),(2,1),(3,1)] [(.slice none 0 0),(.slice none 0 0),(.slice none 0 0),(.slice none 0 0)]:=Qbj Tryz.underlying26 (by kernel_rfl) (by kernel_rfl)
theorem Qdl:BI Tryz.prog 39 [(0,1),(1,1),(2,1)] [(.slice none 0 0),(.slice none 0 0),(.int .i64 0)]:=Qbj Tryz.underlying39 (by kernel_rfl) (by kernel_rfl)
theorem Qij:BI Tryz.prog 52 [(0,1),(1,1),(2,1)] [(.int .i64 0),(.int .i64 0),(.int .i64 0)]:=Qbj Tryz.underlying52 (by kernel_rfl) (by kernel_rfl)
theorem Qik:BI Tryz.prog 62 [(0,1),(1,1)] [(.slice none 0 0),(.int .i64 0)]:=Qbj Tryz.underlying62 (by kernel_rfl) (by kernel_rfl)
theorem QIo:BI Tryz.prog 78 [(0,1),(1,1)] [(.string ByteArray.empty),(.int .i64 0)]:=Qbj Tryz.underlying78 (by kernel_rfl) (by kernel_rfl)
theorem Qlx:BI Tryz.prog 80 [(0,1),(1,1),(2,1)] [(.string ByteArray.empty),(.slice none 0 0),(.slice none 0 0)]:=Qbj Tryz.underlying80 (by kernel_rfl) (by kernel_rfl)
theorem Qag:BI Tryz.prog 82 [(0,1),(1,1)] [(.int .i64 0),(.int .i64 0)]:=Qbj Tryz.underlying82 (by kernel_rfl) (by kernel_rfl)
theorem Qil:BI Tryz.prog 91 [(0,4),(4,3)] [(.slice none 0 0),(.slice none 0 0),(.slice none 0 0),(.slice none 0 0),(.slice none 0 0),(.slice none 0 0),(.int .i64 0)]:=Qbj Tryz.underlying91 (by kernel_rfl) (by kernel_rfl)
theorem QIp:BI Tryz.prog 95 [(0,1),(1,1)] [(.map none),(.slice none 0 0)]:=Qbj Tryz.underlying95 (by kernel_rfl) (by kernel_rfl)
theorem Qrk:BI Tryz.prog 107 [(0,1),(1,1),(2,3)] [(.pointer none),(.pointer none),(.int .i64 0),(.int .i64 0),(.int .i64 0)]:=Qbj Tryz.underlying107 (by kernel_rfl) (by kernel_rfl)
theorem QIn:BI Tryz.prog 153 [(0,3),(3,1)] [(.int .i64 0),(.int .i64 0),(.int .i64 0),(.pointer none)]:=Qbj Tryz.underlying153 (by kernel_rfl) (by kernel_rfl)
theorem Qab:ZI Tryz.prog 26 [(.slice none 0 0),(.slice none 0 0),(.slice none 0 0),(.slice none 0 0)]:=Je (by kernel_rfl)
theorem Jc:ZI Tryz.prog 39 [(.slice none 0 0),(.slice none 0 0),(.int .i64 0)]:=Je (by kernel_rfl)
theorem Q1s:ZI Tryz.prog 40 [(.int .i64 0),(.int .i64 0)]:=Je (by kernel_rfl)
theorem Qxe:ZI Tryz.prog 52 [(.int .i64 0),(.int .i64 0),(.int .i64 0)]:=Je (by kernel_rfl)
theorem Qck:ZI Tryz.prog 62 [(.slice none 0 0),(.int .i64 0)]:=Je (by kernel_rfl)
theorem Qhw:ZI Tryz.prog 73 [(.int .i64 0),(.int .i64 0),(.int .i64 0),(.int .i64 0),(.int .i64 0)]:=Je (by kernel_rfl)
theorem Qqq:ZI Tryz.prog 78 [(.string ByteArray.empty),(.int .i64 0)]:=Je (by kernel_rfl)
theorem Qcl:ZI Tryz.prog 80 [(.string ByteArray.empty),(.slice none 0 0),(.slice none 0 0)]:=Je (by kernel_rfl)
theorem JI:ZI Tryz.prog 82 [(.int .i64 0),(.int .i64 0)]:=Je (by kernel_rfl)
theorem QHb:ZI Tryz.prog 126 [(.pointer none),(.slice none 0 0)]:=Je (by kernel_rfl)
theorem QHc:ZI Tryz.prog 138 [(.slice none 0 0)]:=Je (by kernel_rfl)
theorem Q1n:ZI Tryz.prog 150 [(.slice none 0 0)]:=Je (by kernel_rfl)
theorem QHd:ZI Tryz.prog 153 [(.int .i64 0),(.int .i64 0),(.int .i64 0),(.pointer none)]:=Je (by kernel_rfl)
theorem Q1o:ZI Tryz.prog 180 [.nilFunc,.nilFunc,.nilFunc,.nilFunc]:=Je (by kernel_rfl)
theorem Q1q:ZI Tryz.prog 227 [(.int .u8 0),(.int .u8 0),(.int .u8 0),(.int .u8 0),(.int .u8 0),(.int .u8 0),(.int .u8 0),(.int .u8 0),(.int .u8 0),(.int .u8 0),(.int .u8 0),(.int .u8 0),(.int .u8 0),(.int .u8 0),(.int .u8 0),(.int .u8 0),(.int .u8 0),(.int .u8 0),(.int .u8 0),(.int .u8 0),(.int .u8 0),(.int .u8 0),(.int .u8 0),(.int .u8 0)]:=Je (by kernel_rfl)
theorem nm6:(Tryz.f6.name == numgo)=false:=by kernel_rfl
theorem nm7:(Tryz.f7.name == numgo)=false:=by kernel_rfl
theorem nm8:(Tryz.f8.name == numgo)=false:=by kernel_rfl
theorem nm9:(Tryz.f9.name == numgo)=false:=by kernel_rfl
theorem QQm:(Tryz.f10.name == numgo)=false:=by kernel_rfl
theorem QQu:(Tryz.f11.name == numgo)=false:=by kernel_rfl
theorem QRh:(Tryz.f13.name == numgo)=false:=by kernel_rfl
theorem QBt:(Tryz.f14.name == numgo)=false:=by kernel_rfl
theorem QRo:(Tryz.f15.name == numgo)=false:=by kernel_rfl
theorem Qnx:(Tryz.f16.name == numgo)=false:=by kernel_rfl
theorem QBw:(Tryz.f17.name == numgo)=false:=by kernel_rfl
theorem Quc:(Tryz.f18.name == numgo)=false:=by kernel_rfl
theorem QRz:(Tryz.f19.name == numgo)=false:=by kernel_rfl
theorem QBx:(Tryz.f20.name == numgo)=false:=by kernel_rfl
theorem QBy:(Tryz.f21.name == numgo)=false:=by kernel_rfl
theorem QSa:(Tryz.f23.name == numgo)=false:=by kernel_rfl
theorem Qjr:(Tryz.f27.name == numgo)=false:=by kernel_rfl
theorem Qba:(Tryz.f28.name == numgo)=false:=by kernel_rfl
theorem QSb:(Tryz.f30.name == numgo)=false:=by kernel_rfl
theorem QBz:(Tryz.f31.name == numgo)=false:=by kernel_rfl
theorem QSc:(Tryz.f32.name == numgo)=false:=by kernel_rfl
theorem QSd:(Tryz.f33.name == numgo)=false:=by kernel_rfl
theorem QSe:(Tryz.f34.name == numgo)=false:=by kernel_rfl
theorem Qny:(Tryz.f35.name == numgo)=false:=by kernel_rfl
theorem QSf:(Tryz.f36.name == numgo)=false:=by kernel_rfl
theorem Qnz:(Tryz.f37.name == numgo)=false:=by kernel_rfl
theorem QCa:(Tryz.f38.name == numgo)=false:=by kernel_rfl
theorem QCb:(Tryz.f39.name == numgo)=false:=by kernel_rfl
theorem QCc:(Tryz.f40.name == numgo)=false:=by kernel_rfl
theorem JF:(Tryz.f41.name == numgo)=false:=by kernel_rfl
theorem Qea:(Tryz.f42.name == numgo)=false:=by kernel_rfl
theorem QCd:(Tryz.f44.name == numgo)=false:=by kernel_rfl
theorem QSg:(Tryz.f45.name == numgo)=false:=by kernel_rfl
theorem QSh:(Tryz.f46.name == numgo)=false:=by kernel_rfl
theorem Jt:(Tryz.f47.name == numgo)=false:=by kernel_rfl
theorem QCe:(Tryz.f48.name == numgo)=false:=by kernel_rfl
theorem Qud:(Tryz.f49.name == numgo)=false:=by kernel_rfl
theorem Qeb:(Tryz.f50.name == numgo)=false:=by kernel_rfl
theorem QSi:(Tryz.f51.name == numgo)=false:=by kernel_rfl
theorem QCf:(Tryz.f52.name == numgo)=false:=by kernel_rfl
theorem Que:(Tryz.f53.name == numgo)=false:=by kernel_rfl
theorem QSj:(Tryz.f54.name == numgo)=false:=by kernel_rfl
theorem QSk:(Tryz.f55.name == numgo)=false:=by kernel_rfl
theorem QSl:(Tryz.f56.name == numgo)=false:=by kernel_rfl
theorem QCg:(Tryz.f57.name == numgo)=false:=by kernel_rfl
theorem QSm:(Tryz.f58.name == numgo)=false:=by kernel_rfl
theorem Qoa:(Tryz.f59.name == numgo)=false:=by kernel_rfl
theorem QSn:(Tryz.f60.name == numgo)=false:=by kernel_rfl
theorem Yk:(Tryz.f61.name == numgo)=false:=by kernel_rfl
theorem Quf:(Tryz.f62.name == numgo)=false:=by kernel_rfl
theorem QSo:(Tryz.f63.name == numgo)=false:=by kernel_rfl
theorem QSp:(Tryz.f64.name == numgo)=false:=by kernel_rfl
theorem QSq:(Tryz.f65.name == numgo)=false:=by kernel_rfl
theorem QSr:(Tryz.f66.name == numgo)=false:=by kernel_rfl
theorem QCh:(Tryz.f67.name == numgo)=false:=by kernel_rfl
theorem Qob:(Tryz.f68.name == numgo)=false:=by kernel_rfl
theorem QSs:(Tryz.f69.name == numgo)=false:=by kernel_rfl
theorem Qfi:(Tryz.f70.name == numgo)=false:=by kernel_rfl
theorem Qgx:(Tryz.f71.name == numgo)=false:=by kernel_rfl
theorem Qug:(Tryz.f72.name == numgo)=false:=by kernel_rfl
theorem QCi:(Tryz.f73.name == numgo)=false:=by kernel_rfl
theorem QCj:(Tryz.f74.name == numgo)=false:=by kernel_rfl
theorem QSt:(Tryz.f75.name == numgo)=false:=by kernel_rfl
theorem QSu:(Tryz.f76.name == numgo)=false:=by kernel_rfl
theorem QSv:(Tryz.f77.name == numgo)=false:=by kernel_rfl
theorem Quh:(Tryz.f83.name == numgo)=false:=by kernel_rfl
theorem QSw:(Tryz.f84.name == numgo)=false:=by kernel_rfl
theorem QSx:(Tryz.f85.name == numgo)=false:=by kernel_rfl
theorem QSy:(Tryz.f86.name == numgo)=false:=by kernel_rfl
theorem Qui:(Tryz.f87.name == numgo)=false:=by kernel_rfl
theorem QSz:(Tryz.f88.name == numgo)=false:=by kernel_rfl
theorem Qcz:(Tryz.f89.name == numgo)=false:=by kernel_rfl
theorem QCk:(Tryz.f90.name == numgo)=false:=by kernel_rfl
theorem Quj:(Tryz.f91.name == numgo)=false:=by kernel_rfl
theorem Qoc:(Tryz.f92.name == numgo)=false:=by kernel_rfl
theorem Qgy:(Tryz.f93.name == numgo)=false:=by kernel_rfl
theorem QCl:(Tryz.f94.name == numgo)=false:=by kernel_rfl
theorem QTa:(Tryz.f95.name == numgo)=false:=by kernel_rfl
theorem QTb:(Tryz.f96.name == numgo)=false:=by kernel_rfl
theorem QTc:(Tryz.f97.name == numgo)=false:=by kernel_rfl
theorem QTd:(Tryz.f98.name == numgo)=false:=by kernel_rfl
theorem Quk:(Tryz.f99.name == numgo)=false:=by kernel_rfl
theorem QQn:(Tryz.f100.name == numgo)=false:=by kernel_rfl
theorem QQo:(Tryz.f101.name == numgo)=false:=by kernel_rfl
theorem QQp:(Tryz.f102.name == numgo)=false:=by kernel_rfl
theorem QQq:(Tryz.f104.name == numgo)=false:=by kernel_rfl
theorem QQr:(Tryz.f105.name == numgo)=false:=by kernel_rfl
theorem Qua:(Tryz.f106.name == numgo)=false:=by kernel_rfl
theorem QQs:(Tryz.f107.name == numgo)=false:=by kernel_rfl
theorem QQt:(Tryz.f108.name == numgo)=false:=by kernel_rfl
theorem QBs:(Tryz.f109.name == numgo)=false:=by kernel_rfl
theorem QQv:(Tryz.f110.name == numgo)=false:=by kernel_rfl
theorem QQw:(Tryz.f111.name == numgo)=false:=by kernel_rfl
theorem QQx:(Tryz.f112.name == numgo)=false:=by kernel_rfl
theorem QQy:(Tryz.f113.name == numgo)=false:=by kernel_rfl
theorem QQz:(Tryz.f114.name == numgo)=false:=by kernel_rfl
theorem QRa:(Tryz.f115.name == numgo)=false:=by kernel_rfl
theorem QRb:(Tryz.f116.name == numgo)=false:=by kernel_rfl
theorem QRc:(Tryz.f117.name == numgo)=false:=by kernel_rfl
theorem QRd:(Tryz.f118.name == numgo)=false:=by kernel_rfl
theorem QRe:(Tryz.f119.name == numgo)=false:=by kernel_rfl
theorem QRf:(Tryz.f120.name == numgo)=false:=by kernel_rfl
theorem QRg:(Tryz.f121.name == numgo)=false:=by kernel_rfl
theorem QRi:(Tryz.f135.name == numgo)=false:=by kernel_rfl
theorem QRj:(Tryz.f141.name == numgo)=false:=by kernel_rfl
theorem QRk:(Tryz.f142.name == numgo)=false:=by kernel_rfl
theorem QRl:(Tryz.f143.name == numgo)=false:=by kernel_rfl
theorem QRm:(Tryz.f144.name == numgo)=false:=by kernel_rfl
theorem QRn:(Tryz.f145.name == numgo)=false:=by kernel_rfl
theorem QBu:(Tryz.f154.name == numgo)=false:=by kernel_rfl
theorem QBv:(Tryz.f155.name == numgo)=false:=by kernel_rfl
theorem QRp:(Tryz.f157.name == numgo)=false:=by kernel_rfl
theorem Qub:(Tryz.f159.name == numgo)=false:=by kernel_rfl
theorem QRq:(Tryz.f160.name == numgo)=false:=by kernel_rfl
theorem QRr:(Tryz.f161.name == numgo)=false:=by kernel_rfl
theorem QRs:(Tryz.f166.name == numgo)=false:=by kernel_rfl
theorem QRt:(Tryz.f173.name == numgo)=false:=by kernel_rfl
theorem QRu:(Tryz.f174.name == numgo)=false:=by kernel_rfl
theorem QRv:(Tryz.f175.name == numgo)=false:=by kernel_rfl
theorem QRw:(Tryz.f178.name == numgo)=false:=by kernel_rfl
theorem QRx:(Tryz.f180.name == numgo)=false:=by kernel_rfl
theorem QRy:(Tryz.f181.name == numgo)=false:=by kernel_rfl
theorem QKe:Tryz.prog.eqGuardType Tryz.prog.depth 73=false:=by kernel_rfl
theorem QKi (a b:Ny):EqS Tryz.prog 73 (List.toArray [(.int .i64 a.e0),(.int .i64 a.e1),(.int .i64 a.e2),(.int .i64 a.e3),(.int .i64 a.e4)]) (List.toArray [(.int .i64 b.e0),(.int .i64 b.e1),(.int .i64 b.e2),(.int .i64 b.e3),(.int .i64 b.e4)]) (decide (a=b)):=by
  refine ⟨by intro c hc;simp at hc;(repeat' (rcases hc with rfl | hc));all_goals (first | rfl | (subst hc;rfl) | simp_all [Qgk]),fun w=>?_⟩
  have u3:=Tryz.underlying3
  have a3:=Tryz.isAgg3
  have z3:=Tryz.sizeOf3
  rw [Op.equalIn]
  simp only [Sem.run_bind,run_underlying Tryz.underlying73,Result.andThen_ok]
  simp only [Std.Legacy.Range.forIn_eq_forIn_range',Std.Legacy.Range.size,Nat.sub_zero,Nat.add_sub_cancel,Nat.div_one,List.range'_succ,List.range'_zero,List.forIn_cons,List.forIn_nil]
  go_simp
  cases a;cases b;simp only [Ny.mk.injEq]
  repeat' split
  all_goals simp_all
theorem XD:Tryz.prog.follows .mixedOrders=true:=by kernel_rfl
end Go.Gw
