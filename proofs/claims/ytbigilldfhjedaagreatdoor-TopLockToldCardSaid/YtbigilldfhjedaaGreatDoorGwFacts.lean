/- Facts of the types of the program. No condition. -/
import Derived.Test.YtbigilldfhjedaaGreatDoorGwSt
import Derived.Test.YtbigilldfhjedaaGreatDoorGwLib5
import Derived.Laws.StructEq
import Derived.Laws.Externs
import Derived.Test.YtbigilldfhjedaaGreatDoorGwLib21
import Derived.Test.YtbigilldfhjedaaGreatDoorProg
set_option linter.unusedVariables false
set_option linter.unusedSimpArgs false
set_option linter.unusedSectionVars false
set_option maxRecDepth 100000
namespace Go.Gw
open Go Go.Proofs
abbrev numgo : String := "runtime.NumGoroutine"
theorem QO:Xi Tryz.prog 3 1:=Yo (by kernel_rfl)
theorem sz5:Xi Tryz.prog 5 1:=Yo (by kernel_rfl)
theorem XU:Xi Tryz.prog 9 1:=Yo (by kernel_rfl)
theorem Yw:Xi Tryz.prog 22 1:=Yo (by kernel_rfl)
theorem Y7:Xi Tryz.prog 23 1:=Yo (by kernel_rfl)
theorem Zr:Xi Tryz.prog 24 1:=Yo (by kernel_rfl)
theorem YX:Xi Tryz.prog 26 4:=Yo (by kernel_rfl)
theorem Jh:Xi Tryz.prog 28 3:=Yo (by kernel_rfl)
theorem Xs:Xi Tryz.prog 29 1:=Yo (by kernel_rfl)
theorem YH:Xi Tryz.prog 30 1:=Yo (by kernel_rfl)
theorem XO:Xi Tryz.prog 32 3:=Yo (by kernel_rfl)
theorem QXd:Xi Tryz.prog 41 1:=Yo (by kernel_rfl)
theorem ZZ:Xi Tryz.prog 63 5:=Yo (by kernel_rfl)
theorem QXe:Xi Tryz.prog 66 15:=Yo (by kernel_rfl)
theorem Ji:Xi Tryz.prog 78 2:=Yo (by kernel_rfl)
theorem Jj:Xi Tryz.prog 80 3:=Yo (by kernel_rfl)
theorem Y8:Xi Tryz.prog 82 2:=Yo (by kernel_rfl)
theorem Qvg:Xi Tryz.prog 104 1:=Yo (by kernel_rfl)
theorem YJ:Xi Tryz.prog 113 2:=Yo (by kernel_rfl)
theorem QDy:Xi Tryz.prog 122 1:=Yo (by kernel_rfl)
theorem Qjx:Xi Tryz.prog 144 1:=Yo (by kernel_rfl)
theorem Qco:Xi Tryz.prog 145 1:=Yo (by kernel_rfl)
theorem QDz:Xi Tryz.prog 165 1:=Yo (by kernel_rfl)
theorem QXb:Xi Tryz.prog 174 1:=Yo (by kernel_rfl)
theorem QXc:Xi Tryz.prog 177 1:=Yo (by kernel_rfl)
theorem QEa:Xi Tryz.prog 188 1:=Yo (by kernel_rfl)
theorem QEb:Xi Tryz.prog 191 4:=Yo (by kernel_rfl)
theorem Qjy:Xi Tryz.prog 201 1:=Yo (by kernel_rfl)
theorem Q0:YO Tryz.prog 3:=⟨_,Tryz.underlying3,trivial⟩
theorem sc5:YO Tryz.prog 5:=⟨_,Tryz.underlying5,trivial⟩
theorem YG:YO Tryz.prog 9:=⟨_,Tryz.underlying9,trivial⟩
theorem Yv:YO Tryz.prog 22:=⟨_,Tryz.underlying22,trivial⟩
theorem Y5:YO Tryz.prog 23:=⟨_,Tryz.underlying23,trivial⟩
theorem ZK:YO Tryz.prog 24:=⟨_,Tryz.underlying24,trivial⟩
theorem Xx:YO Tryz.prog 29:=⟨_,Tryz.underlying29,trivial⟩
theorem Y6:YO Tryz.prog 30:=⟨_,Tryz.underlying30,trivial⟩
theorem QVg:YO Tryz.prog 41:=⟨_,Tryz.underlying41,trivial⟩
theorem Qug:YO Tryz.prog 104:=⟨_,Tryz.underlying104,trivial⟩
theorem Qjg:YO Tryz.prog 122:=⟨_,Tryz.underlying122,trivial⟩
theorem Qjh:YO Tryz.prog 144:=⟨_,Tryz.underlying144,trivial⟩
theorem Qji:YO Tryz.prog 145:=⟨_,Tryz.underlying145,trivial⟩
theorem QCz:YO Tryz.prog 165:=⟨_,Tryz.underlying165,trivial⟩
theorem QVe:YO Tryz.prog 174:=⟨_,Tryz.underlying174,trivial⟩
theorem QVf:YO Tryz.prog 177:=⟨_,Tryz.underlying177,trivial⟩
theorem Qjj:YO Tryz.prog 188:=⟨_,Tryz.underlying188,trivial⟩
theorem Qoi:YO Tryz.prog 201:=⟨_,Tryz.underlying201,trivial⟩
theorem Yn:Aggr Tryz.prog 26 4:=Qbd (by trivial) Tryz.underlying26 (by kernel_rfl)
theorem Zb:Aggr Tryz.prog 28 3:=Qbd (by trivial) Tryz.underlying28 (by kernel_rfl)
theorem Yd:Aggr Tryz.prog 32 3:=Qbd (by trivial) Tryz.underlying32 (by kernel_rfl)
theorem ZD:Aggr Tryz.prog 63 5:=Qbd (by trivial) Tryz.underlying63 (by kernel_rfl)
theorem Qpv:Aggr Tryz.prog 66 15:=Qbd (by trivial) Tryz.underlying66 (by kernel_rfl)
theorem Qez:Aggr Tryz.prog 78 2:=Qbd (by trivial) Tryz.underlying78 (by kernel_rfl)
theorem Qbv:Aggr Tryz.prog 80 3:=Qbd (by trivial) Tryz.underlying80 (by kernel_rfl)
theorem Qbw:Aggr Tryz.prog 82 2:=Qbd (by trivial) Tryz.underlying82 (by kernel_rfl)
theorem YI:Aggr Tryz.prog 113 2:=Qbd (by trivial) Tryz.underlying113 (by kernel_rfl)
theorem QGf:Aggr Tryz.prog 191 4:=Qbd (by trivial) Tryz.underlying191 (by kernel_rfl)
theorem YQ:EInfo Tryz.prog 3 1 8 (.int .i64 0):=JF (by kernel_rfl) rfl (by decide)
theorem Js:EInfo Tryz.prog 9 1 16 (.string ByteArray.empty):=JF (by kernel_rfl) rfl (by decide)
theorem Qqx:EInfo Tryz.prog 28 3 24 (.agg (List.toArray [(.int .i64 0),(.int .i64 0),(.int .i64 0)])):=JF (by kernel_rfl) rfl (by decide)
theorem QIw:EInfo Tryz.prog 29 1 24 (.slice none 0 0):=JF (by kernel_rfl) rfl (by decide)
theorem ZV:EInfo Tryz.prog 41 1 8 (.int .i64 0):=JF (by kernel_rfl) rfl (by decide)
theorem Qyg:EInfo Tryz.prog 63 5 40 (.agg (List.toArray [(.int .i64 0),(.int .i64 0),(.int .i64 0),(.int .i64 0),(.int .i64 0)])):=JF (by kernel_rfl) rfl (by decide)
theorem YU:EInfo Tryz.prog 78 2 24 (.agg (List.toArray [(.string ByteArray.empty),(.int .i64 0)])):=JF (by kernel_rfl) rfl (by decide)
theorem Qqy:EInfo Tryz.prog 80 3 64 (.agg (List.toArray [(.string ByteArray.empty),(.slice none 0 0),(.slice none 0 0)])):=JF (by kernel_rfl) rfl (by decide)
theorem Qbf:EInfo Tryz.prog 82 2 32 (.agg (List.toArray [(.slice none 0 0),(.int .i64 0)])):=JF (by kernel_rfl) rfl (by decide)
theorem Qqv:EInfo Tryz.prog 104 1 8 (.pointer none):=JF (by kernel_rfl) rfl (by decide)
theorem QIu:EInfo Tryz.prog 165 1 24 (.slice none 0 0):=JF (by kernel_rfl) rfl (by decide)
theorem Qqw:EInfo Tryz.prog 174 1 8 (.pointer none):=JF (by kernel_rfl) rfl (by decide)
theorem QIv:EInfo Tryz.prog 188 1 24 (.slice none 0 0):=JF (by kernel_rfl) rfl (by decide)
theorem Qyf:EInfo Tryz.prog 191 4 32 (.agg (List.toArray [(.int .i64 0),(.int .i64 0),(.int .i64 0),(.pointer none)])):=JF (by kernel_rfl) rfl (by decide)
theorem ZT:BI Tryz.prog 26 [(0,1),(1,1),(2,1),(3,1)] [(.slice none 0 0),(.slice none 0 0),(.slice none 0 0),(.slice none 0 0)]:=Qan Tryz.underlying26 (by kernel_rfl) (by kernel_rfl)
theorem Qcy:BI Tryz.prog 28 [(0,1),(1,1),(2,1)] [(.int .i64 0),(.int .i64 0),(.int .i64 0)]:=Qan Tryz.underlying28 (by kernel_rfl) (by kernel_rfl)
theorem JB:BI Tryz.prog 32 [(0,1),(1,1),(2,1)] [(.slice none 0 0),(.slice none 0 0),(.int .i64 0)]:=Qan Tryz.underlying32 (by kernel_rfl) (by kernel_rfl)
theorem QGv:BI Tryz.prog 78 [(0,1),(1,1)] [(.string ByteArray.empty),(.int .i64 0)]:=Qan Tryz.underlying78 (by kernel_rfl) (by kernel_rfl)
theorem Qkn:BI Tryz.prog 80 [(0,1),(1,1),(2,1)] [(.string ByteArray.empty),(.slice none 0 0),(.slice none 0 0)]:=Qan Tryz.underlying80 (by kernel_rfl) (by kernel_rfl)
theorem Qhj:BI Tryz.prog 82 [(0,1),(1,1)] [(.slice none 0 0),(.int .i64 0)]:=Qan Tryz.underlying82 (by kernel_rfl) (by kernel_rfl)
theorem JX:BI Tryz.prog 113 [(0,1),(1,1)] [(.int .i64 0),(.int .i64 0)]:=Qan Tryz.underlying113 (by kernel_rfl) (by kernel_rfl)
theorem Qhi:BI Tryz.prog 125 [(0,4),(4,3)] [(.slice none 0 0),(.slice none 0 0),(.slice none 0 0),(.slice none 0 0),(.slice none 0 0),(.slice none 0 0),(.int .i64 0)]:=Qan Tryz.underlying125 (by kernel_rfl) (by kernel_rfl)
theorem QGt:BI Tryz.prog 147 [(0,1),(1,1)] [(.map none),(.slice none 0 0)]:=Qan Tryz.underlying147 (by kernel_rfl) (by kernel_rfl)
theorem Qxk:BI Tryz.prog 176 [(0,1),(1,1),(2,3)] [(.pointer none),(.pointer none),(.int .i64 0),(.int .i64 0),(.int .i64 0)]:=Qan Tryz.underlying176 (by kernel_rfl) (by kernel_rfl)
theorem QGu:BI Tryz.prog 191 [(0,3),(3,1)] [(.int .i64 0),(.int .i64 0),(.int .i64 0),(.pointer none)]:=Qan Tryz.underlying191 (by kernel_rfl) (by kernel_rfl)
theorem JT:ZI Tryz.prog 26 [(.slice none 0 0),(.slice none 0 0),(.slice none 0 0),(.slice none 0 0)]:=Z1 (by kernel_rfl)
theorem Qev:ZI Tryz.prog 28 [(.int .i64 0),(.int .i64 0),(.int .i64 0)]:=Z1 (by kernel_rfl)
theorem Zk:ZI Tryz.prog 32 [(.slice none 0 0),(.slice none 0 0),(.int .i64 0)]:=Z1 (by kernel_rfl)
theorem Qbs:ZI Tryz.prog 63 [(.int .i64 0),(.int .i64 0),(.int .i64 0),(.int .i64 0),(.int .i64 0)]:=Z1 (by kernel_rfl)
theorem QFn:ZI Tryz.prog 66 [(.int .i64 0),(.int .i64 0),(.int .i64 0),(.int .i64 0),(.int .i64 0),(.int .i64 0),(.int .i64 0),(.int .i64 0),(.int .i64 0),(.int .i64 0),(.int .i64 0),(.int .i64 0),(.int .i64 0),(.int .i64 0),(.int .i64 0)]:=Z1 (by kernel_rfl)
theorem Qpj:ZI Tryz.prog 78 [(.string ByteArray.empty),(.int .i64 0)]:=Z1 (by kernel_rfl)
theorem Qgw:ZI Tryz.prog 80 [(.string ByteArray.empty),(.slice none 0 0),(.slice none 0 0)]:=Z1 (by kernel_rfl)
theorem Qew:ZI Tryz.prog 82 [(.slice none 0 0),(.int .i64 0)]:=Z1 (by kernel_rfl)
theorem QFo:ZI Tryz.prog 89 [(.pointer none),(.slice none 0 0)]:=Z1 (by kernel_rfl)
theorem Jo:ZI Tryz.prog 113 [(.int .i64 0),(.int .i64 0)]:=Z1 (by kernel_rfl)
theorem Q0v:ZI Tryz.prog 177 [(.slice none 0 0)]:=Z1 (by kernel_rfl)
theorem Q0w:ZI Tryz.prog 188 [(.slice none 0 0)]:=Z1 (by kernel_rfl)
theorem Q0x:ZI Tryz.prog 191 [(.int .i64 0),(.int .i64 0),(.int .i64 0),(.pointer none)]:=Z1 (by kernel_rfl)
theorem Q0z:ZI Tryz.prog 206 [.nilFunc,.nilFunc,.nilFunc,.nilFunc]:=Z1 (by kernel_rfl)
theorem nm6:(Tryz.f6.name == numgo)=false:=by kernel_rfl
theorem nm8:(Tryz.f8.name == numgo)=false:=by kernel_rfl
theorem nm9:(Tryz.f9.name == numgo)=false:=by kernel_rfl
theorem Qmw:(Tryz.f10.name == numgo)=false:=by kernel_rfl
theorem QPz:(Tryz.f13.name == numgo)=false:=by kernel_rfl
theorem QQk:(Tryz.f14.name == numgo)=false:=by kernel_rfl
theorem QAu:(Tryz.f17.name == numgo)=false:=by kernel_rfl
theorem QQw:(Tryz.f18.name == numgo)=false:=by kernel_rfl
theorem QRe:(Tryz.f21.name == numgo)=false:=by kernel_rfl
theorem QAw:(Tryz.f22.name == numgo)=false:=by kernel_rfl
theorem Qmx:(Tryz.f23.name == numgo)=false:=by kernel_rfl
theorem QRi:(Tryz.f24.name == numgo)=false:=by kernel_rfl
theorem QRj:(Tryz.f25.name == numgo)=false:=by kernel_rfl
theorem QRk:(Tryz.f26.name == numgo)=false:=by kernel_rfl
theorem QRl:(Tryz.f27.name == numgo)=false:=by kernel_rfl
theorem Qmy:(Tryz.f28.name == numgo)=false:=by kernel_rfl
theorem QRm:(Tryz.f30.name == numgo)=false:=by kernel_rfl
theorem QRn:(Tryz.f31.name == numgo)=false:=by kernel_rfl
theorem QRo:(Tryz.f32.name == numgo)=false:=by kernel_rfl
theorem Qmz:(Tryz.f33.name == numgo)=false:=by kernel_rfl
theorem Qch:(Tryz.f34.name == numgo)=false:=by kernel_rfl
theorem QAx:(Tryz.f35.name == numgo)=false:=by kernel_rfl
theorem Qir:(Tryz.f36.name == numgo)=false:=by kernel_rfl
theorem Qtd:(Tryz.f37.name == numgo)=false:=by kernel_rfl
theorem QAy:(Tryz.f38.name == numgo)=false:=by kernel_rfl
theorem Qis:(Tryz.f39.name == numgo)=false:=by kernel_rfl
theorem Qte:(Tryz.f40.name == numgo)=false:=by kernel_rfl
theorem Qtf:(Tryz.f44.name == numgo)=false:=by kernel_rfl
theorem QRp:(Tryz.f45.name == numgo)=false:=by kernel_rfl
theorem QAz:(Tryz.f46.name == numgo)=false:=by kernel_rfl
theorem Qtg:(Tryz.f47.name == numgo)=false:=by kernel_rfl
theorem QRq:(Tryz.f48.name == numgo)=false:=by kernel_rfl
theorem QRr:(Tryz.f50.name == numgo)=false:=by kernel_rfl
theorem QBa:(Tryz.f53.name == numgo)=false:=by kernel_rfl
theorem QRs:(Tryz.f54.name == numgo)=false:=by kernel_rfl
theorem QBb:(Tryz.f58.name == numgo)=false:=by kernel_rfl
theorem ZY:(Tryz.f60.name == numgo)=false:=by kernel_rfl
theorem Qna:(Tryz.f61.name == numgo)=false:=by kernel_rfl
theorem X6:(Tryz.f62.name == numgo)=false:=by kernel_rfl
theorem Qth:(Tryz.f63.name == numgo)=false:=by kernel_rfl
theorem QBc:(Tryz.f64.name == numgo)=false:=by kernel_rfl
theorem Qti:(Tryz.f65.name == numgo)=false:=by kernel_rfl
theorem QBd:(Tryz.f66.name == numgo)=false:=by kernel_rfl
theorem Je:(Tryz.f67.name == numgo)=false:=by kernel_rfl
theorem Qit:(Tryz.f68.name == numgo)=false:=by kernel_rfl
theorem QBe:(Tryz.f69.name == numgo)=false:=by kernel_rfl
theorem QBf:(Tryz.f70.name == numgo)=false:=by kernel_rfl
theorem QRt:(Tryz.f71.name == numgo)=false:=by kernel_rfl
theorem QRu:(Tryz.f72.name == numgo)=false:=by kernel_rfl
theorem QRv:(Tryz.f73.name == numgo)=false:=by kernel_rfl
theorem Qtj:(Tryz.f74.name == numgo)=false:=by kernel_rfl
theorem Qfx:(Tryz.f76.name == numgo)=false:=by kernel_rfl
theorem QRw:(Tryz.f80.name == numgo)=false:=by kernel_rfl
theorem QRx:(Tryz.f81.name == numgo)=false:=by kernel_rfl
theorem Qci:(Tryz.f82.name == numgo)=false:=by kernel_rfl
theorem QRy:(Tryz.f83.name == numgo)=false:=by kernel_rfl
theorem QRz:(Tryz.f85.name == numgo)=false:=by kernel_rfl
theorem QSa:(Tryz.f87.name == numgo)=false:=by kernel_rfl
theorem QSb:(Tryz.f88.name == numgo)=false:=by kernel_rfl
theorem QSc:(Tryz.f89.name == numgo)=false:=by kernel_rfl
theorem QBg:(Tryz.f91.name == numgo)=false:=by kernel_rfl
theorem QSd:(Tryz.f92.name == numgo)=false:=by kernel_rfl
theorem QSe:(Tryz.f93.name == numgo)=false:=by kernel_rfl
theorem QSf:(Tryz.f94.name == numgo)=false:=by kernel_rfl
theorem Qtk:(Tryz.f95.name == numgo)=false:=by kernel_rfl
theorem QBh:(Tryz.f96.name == numgo)=false:=by kernel_rfl
theorem QSg:(Tryz.f97.name == numgo)=false:=by kernel_rfl
theorem Qnb:(Tryz.f98.name == numgo)=false:=by kernel_rfl
theorem Qnc:(Tryz.f99.name == numgo)=false:=by kernel_rfl
theorem Qfw:(Tryz.f100.name == numgo)=false:=by kernel_rfl
theorem QAq:(Tryz.f101.name == numgo)=false:=by kernel_rfl
theorem QPo:(Tryz.f102.name == numgo)=false:=by kernel_rfl
theorem QPp:(Tryz.f103.name == numgo)=false:=by kernel_rfl
theorem QPq:(Tryz.f104.name == numgo)=false:=by kernel_rfl
theorem QPr:(Tryz.f105.name == numgo)=false:=by kernel_rfl
theorem QAr:(Tryz.f106.name == numgo)=false:=by kernel_rfl
theorem QPs:(Tryz.f107.name == numgo)=false:=by kernel_rfl
theorem Qta:(Tryz.f108.name == numgo)=false:=by kernel_rfl
theorem QAs:(Tryz.f109.name == numgo)=false:=by kernel_rfl
theorem QPt:(Tryz.f118.name == numgo)=false:=by kernel_rfl
theorem QPu:(Tryz.f122.name == numgo)=false:=by kernel_rfl
theorem QPv:(Tryz.f123.name == numgo)=false:=by kernel_rfl
theorem QPw:(Tryz.f124.name == numgo)=false:=by kernel_rfl
theorem QPx:(Tryz.f126.name == numgo)=false:=by kernel_rfl
theorem Qtb:(Tryz.f127.name == numgo)=false:=by kernel_rfl
theorem QPy:(Tryz.f128.name == numgo)=false:=by kernel_rfl
theorem QAt:(Tryz.f129.name == numgo)=false:=by kernel_rfl
theorem QQa:(Tryz.f130.name == numgo)=false:=by kernel_rfl
theorem QQb:(Tryz.f131.name == numgo)=false:=by kernel_rfl
theorem QQc:(Tryz.f132.name == numgo)=false:=by kernel_rfl
theorem QQd:(Tryz.f133.name == numgo)=false:=by kernel_rfl
theorem QQe:(Tryz.f134.name == numgo)=false:=by kernel_rfl
theorem QQf:(Tryz.f135.name == numgo)=false:=by kernel_rfl
theorem QQg:(Tryz.f136.name == numgo)=false:=by kernel_rfl
theorem QQh:(Tryz.f137.name == numgo)=false:=by kernel_rfl
theorem QQi:(Tryz.f138.name == numgo)=false:=by kernel_rfl
theorem QQj:(Tryz.f139.name == numgo)=false:=by kernel_rfl
theorem QQl:(Tryz.f140.name == numgo)=false:=by kernel_rfl
theorem QQm:(Tryz.f141.name == numgo)=false:=by kernel_rfl
theorem QQn:(Tryz.f142.name == numgo)=false:=by kernel_rfl
theorem QQo:(Tryz.f143.name == numgo)=false:=by kernel_rfl
theorem QQp:(Tryz.f144.name == numgo)=false:=by kernel_rfl
theorem QQq:(Tryz.f145.name == numgo)=false:=by kernel_rfl
theorem QQr:(Tryz.f146.name == numgo)=false:=by kernel_rfl
theorem QQs:(Tryz.f147.name == numgo)=false:=by kernel_rfl
theorem QQt:(Tryz.f148.name == numgo)=false:=by kernel_rfl
theorem QQu:(Tryz.f149.name == numgo)=false:=by kernel_rfl
theorem QQv:(Tryz.f174.name == numgo)=false:=by kernel_rfl
theorem QQx:(Tryz.f180.name == numgo)=false:=by kernel_rfl
theorem QQy:(Tryz.f187.name == numgo)=false:=by kernel_rfl
theorem QAv:(Tryz.f188.name == numgo)=false:=by kernel_rfl
theorem Qtc:(Tryz.f194.name == numgo)=false:=by kernel_rfl
theorem QQz:(Tryz.f195.name == numgo)=false:=by kernel_rfl
theorem QRa:(Tryz.f196.name == numgo)=false:=by kernel_rfl
theorem QRb:(Tryz.f197.name == numgo)=false:=by kernel_rfl
theorem QRc:(Tryz.f198.name == numgo)=false:=by kernel_rfl
theorem QRd:(Tryz.f208.name == numgo)=false:=by kernel_rfl
theorem QRf:(Tryz.f215.name == numgo)=false:=by kernel_rfl
theorem QRg:(Tryz.f222.name == numgo)=false:=by kernel_rfl
theorem QRh:(Tryz.f226.name == numgo)=false:=by kernel_rfl
theorem QIs:Tryz.prog.eqGuardType Tryz.prog.depth 28=false:=by kernel_rfl
theorem QJa (a b:Nj):EqS Tryz.prog 28 (List.toArray [(.int .i64 a.Kind),(.int .i64 a.A),(.int .i64 a.B)]) (List.toArray [(.int .i64 b.Kind),(.int .i64 b.A),(.int .i64 b.B)]) (decide (a=b)):=by
  refine ⟨fun c hc=>by
    simp at hc
    repeat' (rcases hc with rfl | hc)
    all_goals simp_all [Qdy],fun w=>?_⟩
  have u3:=Tryz.underlying3
  have a3:=Tryz.isAgg3
  have z3:=Tryz.sizeOf3
  have hS:Tryz.prog.underlying 28=some (.struct (Tryz.prog.fieldsOf 28)):=by kernel_rfl
  have hp:Tryz.prog.stoodInHeld 28=false:=by kernel_rfl
  rw [run_equalIn_agg w 9999 28 _ _ hS hp]
  simp only [Program.fieldsOf,Tryz.underlying28]
  go_simp
  cases a;cases b;simp only [Nj.mk.injEq]
  repeat' split
  all_goals simp_all [QHb]
theorem QIt:Tryz.prog.eqGuardType Tryz.prog.depth 63=false:=by kernel_rfl
theorem QJb (a b:Nh):EqS Tryz.prog 63 (List.toArray [(.int .i64 a.e0),(.int .i64 a.e1),(.int .i64 a.e2),(.int .i64 a.e3),(.int .i64 a.e4)]) (List.toArray [(.int .i64 b.e0),(.int .i64 b.e1),(.int .i64 b.e2),(.int .i64 b.e3),(.int .i64 b.e4)]) (decide (a=b)):=by
  refine ⟨by intro c hc;simp at hc;(repeat' (rcases hc with rfl | hc));all_goals (first | rfl | (subst hc;rfl) | simp_all [Qdy]),fun w=>?_⟩
  have u3:=Tryz.underlying3
  have a3:=Tryz.isAgg3
  have z3:=Tryz.sizeOf3
  rw [Op.equalIn]
  simp only [Sem.run_bind,run_underlying Tryz.underlying63,Result.andThen_ok]
  simp only [Std.Legacy.Range.forIn_eq_forIn_range',Std.Legacy.Range.size,Nat.sub_zero,Nat.add_sub_cancel,Nat.div_one,List.range'_succ,List.range'_zero,List.forIn_cons,List.forIn_nil]
  go_simp
  cases a;cases b;simp only [Nh.mk.injEq]
  repeat' split
  all_goals simp_all
theorem QKr:Tryz.f187.body.isNone=true:=by kernel_rfl
theorem QKz:Extern.findNext Tryz.f187=none:=by kernel_rfl
theorem QKt:Extern.find Tryz.f187=some Extern.BytealgCount.count:=by kernel_rfl
theorem QKs:Tryz.f226.body.isNone=true:=by kernel_rfl
theorem QLa:Extern.findNext Tryz.f226=none:=by kernel_rfl
theorem QKu:Extern.find Tryz.f226=some Extern.BytealgIndexByte.indexByte:=by kernel_rfl
theorem XI:Tryz.prog.follows .mixedOrders=true:=by kernel_rfl
end Go.Gw
