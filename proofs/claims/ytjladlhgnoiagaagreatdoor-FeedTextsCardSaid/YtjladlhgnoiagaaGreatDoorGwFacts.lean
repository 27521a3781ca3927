/- Facts of the types of the program. No condition. -/
import Derived.Test.YtjladlhgnoiagaaGreatDoorGwSt
import Derived.Test.YtjladlhgnoiagaaGreatDoorGwCj6
import Derived.Laws.StructEq
import Derived.Laws.Externs
import Derived.Test.YtjladlhgnoiagaaGreatDoorGwLib21
import Derived.Test.YtjladlhgnoiagaaGreatDoorProg
set_option linter.unusedVariables false
set_option linter.unusedSimpArgs false
set_option linter.unusedSectionVars false
set_option maxRecDepth 100000
namespace Go.Gw
open Go Go.Proofs
abbrev numgo : String := "runtime.NumGoroutine"
theorem QJ:Xo Tryz.prog 3 1:=Ym (by kernel_rfl)
theorem sz4:Xo Tryz.prog 4 1:=Ym (by kernel_rfl)
theorem Xy:Xo Tryz.prog 5 1:=Ym (by kernel_rfl)
theorem X7:Xo Tryz.prog 9 1:=Ym (by kernel_rfl)
theorem Ze:Xo Tryz.prog 23 2:=Ym (by kernel_rfl)
theorem QHp:Xo Tryz.prog 26 1:=Ym (by kernel_rfl)
theorem Zf:Xo Tryz.prog 35 1:=Ym (by kernel_rfl)
theorem Qaw:Xo Tryz.prog 38 1:=Ym (by kernel_rfl)
theorem Qax:Xo Tryz.prog 39 1:=Ym (by kernel_rfl)
theorem ZZ:Xo Tryz.prog 40 1:=Ym (by kernel_rfl)
theorem Zl:Xo Tryz.prog 42 3:=Ym (by kernel_rfl)
theorem Qkl:Xo Tryz.prog 47 6:=Ym (by kernel_rfl)
theorem Qkm:Xo Tryz.prog 62 2:=Ym (by kernel_rfl)
theorem J1:Xo Tryz.prog 76 3:=Ym (by kernel_rfl)
theorem Qdl:Xo Tryz.prog 84 3:=Ym (by kernel_rfl)
theorem Qbw:Xo Tryz.prog 86 4:=Ym (by kernel_rfl)
theorem Qay:Xo Tryz.prog 88 2:=Ym (by kernel_rfl)
theorem Qdm:Xo Tryz.prog 89 1:=Ym (by kernel_rfl)
theorem ZA:Xo Tryz.prog 91 4:=Ym (by kernel_rfl)
theorem Zm:Xo Tryz.prog 96 3:=Ym (by kernel_rfl)
theorem YD:Xo Tryz.prog 100 5:=Ym (by kernel_rfl)
theorem Qbv:Xo Tryz.prog 119 2:=Ym (by kernel_rfl)
theorem Qdk:Xo Tryz.prog 125 3:=Ym (by kernel_rfl)
theorem QHo:Xo Tryz.prog 155 1:=Ym (by kernel_rfl)
theorem QS:YW Tryz.prog 3:=⟨_,Tryz.underlying3,trivial⟩
theorem sc4:YW Tryz.prog 4:=⟨_,Tryz.underlying4,trivial⟩
theorem sc5:YW Tryz.prog 5:=⟨_,Tryz.underlying5,trivial⟩
theorem Ys:YW Tryz.prog 9:=⟨_,Tryz.underlying9,trivial⟩
theorem QFv:YW Tryz.prog 26:=⟨_,Tryz.underlying26,trivial⟩
theorem Zx:YW Tryz.prog 35:=⟨_,Tryz.underlying35,trivial⟩
theorem Qaq:YW Tryz.prog 38:=⟨_,Tryz.underlying38,trivial⟩
theorem Qar:YW Tryz.prog 39:=⟨_,Tryz.underlying39,trivial⟩
theorem ZW:YW Tryz.prog 40:=⟨_,Tryz.underlying40,trivial⟩
theorem Qqv:YW Tryz.prog 68:=⟨_,Tryz.underlying68,trivial⟩
theorem Qdc:YW Tryz.prog 89:=⟨_,Tryz.underlying89,trivial⟩
theorem QFu:YW Tryz.prog 155:=⟨_,Tryz.underlying155,trivial⟩
theorem YX:Aggr Tryz.prog 23 2:=Y9 (by trivial) Tryz.underlying23 (by kernel_rfl)
theorem JN:Aggr Tryz.prog 42 3:=Y9 (by trivial) Tryz.underlying42 (by kernel_rfl)
theorem Qec:Aggr Tryz.prog 47 6:=Y9 (by trivial) Tryz.underlying47 (by kernel_rfl)
theorem Qtp:Aggr Tryz.prog 51 2:=Y9 (by trivial) Tryz.underlying51 (by kernel_rfl)
theorem Qli:Aggr Tryz.prog 57 2:=Y9 (by trivial) Tryz.underlying57 (by kernel_rfl)
theorem Qhj:Aggr Tryz.prog 62 2:=Y9 (by trivial) Tryz.underlying62 (by kernel_rfl)
theorem YV:Aggr Tryz.prog 76 3:=Y9 (by trivial) Tryz.underlying76 (by kernel_rfl)
theorem Qlj:Aggr Tryz.prog 84 3:=Y9 (by trivial) Tryz.underlying84 (by kernel_rfl)
theorem JO:Aggr Tryz.prog 86 4:=Y9 (by trivial) Tryz.underlying86 (by kernel_rfl)
theorem Qed:Aggr Tryz.prog 88 2:=Y9 (by trivial) Tryz.underlying88 (by kernel_rfl)
theorem Jt:Aggr Tryz.prog 91 4:=Y9 (by trivial) Tryz.underlying91 (by kernel_rfl)
theorem YP:Aggr Tryz.prog 96 3:=Y9 (by trivial) Tryz.underlying96 (by kernel_rfl)
theorem Yz:Aggr Tryz.prog 100 5:=Y9 (by trivial) Tryz.underlying100 (by kernel_rfl)
theorem Qcg:Aggr Tryz.prog 119 2:=Y9 (by trivial) Tryz.underlying119 (by kernel_rfl)
theorem Qhi:Aggr Tryz.prog 125 3:=Y9 (by trivial) Tryz.underlying125 (by kernel_rfl)
theorem YG:EInfo Tryz.prog 3 1 8 (.int .i64 0):=ZT (by kernel_rfl) rfl (by decide)
theorem ei5:EInfo Tryz.prog 5 1 1 (.int .u8 0):=ZT (by kernel_rfl) rfl (by decide)
theorem Jv:EInfo Tryz.prog 9 1 16 (.string ByteArray.empty):=ZT (by kernel_rfl) rfl (by decide)
theorem Qcq:EInfo Tryz.prog 23 2 24 (.agg (List.toArray [(.string ByteArray.empty),(.int .i64 0)])):=ZT (by kernel_rfl) rfl (by decide)
theorem ZG:EInfo Tryz.prog 26 1 8 (.int .i64 0):=ZT (by kernel_rfl) rfl (by decide)
theorem Qia:EInfo Tryz.prog 62 2 16 (.agg (List.toArray [(.int .i64 0),(.int .i64 0)])):=ZT (by kernel_rfl) rfl (by decide)
theorem Qvz:EInfo Tryz.prog 84 3 32 (.agg (List.toArray [(.string ByteArray.empty),(.int .i64 0),(.bool false)])):=ZT (by kernel_rfl) rfl (by decide)
theorem Qwa:EInfo Tryz.prog 86 4 32 (.agg (List.toArray [(.int .i64 0),(.int .i64 0),(.int .i64 0),(.int .i64 0)])):=ZT (by kernel_rfl) rfl (by decide)
theorem Qms:EInfo Tryz.prog 88 2 16 (.agg (List.toArray [(.int .i64 0),(.int .i64 0)])):=ZT (by kernel_rfl) rfl (by decide)
theorem Qwb:EInfo Tryz.prog 91 4 56 (.agg (List.toArray [(.string ByteArray.empty),(.int .i64 0),(.int .i64 0),(.slice none 0 0)])):=ZT (by kernel_rfl) rfl (by decide)
theorem YM:EInfo Tryz.prog 100 5 64 (.agg (List.toArray [(.string ByteArray.empty),(.int .i64 0),(.int .i64 0),(.slice none 0 0),(.int .i64 0)])):=ZT (by kernel_rfl) rfl (by decide)
theorem Zi:BI Tryz.prog 23 [(0,1),(1,1)] [(.string ByteArray.empty),(.int .i64 0)]:=Y2 Tryz.underlying23 (by kernel_rfl) (by kernel_rfl)
theorem Qul:BI Tryz.prog 42 [(0,1),(1,1),(2,1)] [(.slice none 0 0),(.slice none 0 0),(.slice none 0 0)]:=Y2 Tryz.underlying42 (by kernel_rfl) (by kernel_rfl)
theorem Qlz:BI Tryz.prog 47 [(0,1),(1,1),(2,1),(3,1),(4,1),(5,1)] [(.int .i64 0),(.int .i64 0),(.int .i64 0),(.int .i64 0),(.int .i64 0),(.int .i64 0)]:=Y2 Tryz.underlying47 (by kernel_rfl) (by kernel_rfl)
theorem Qum:BI Tryz.prog 51 [(0,1),(1,1)] [(.int .i64 0),(.int .i64 0)]:=Y2 Tryz.underlying51 (by kernel_rfl) (by kernel_rfl)
theorem Qun:BI Tryz.prog 57 [(0,1),(1,1)] [(.slice none 0 0),(.slice none 0 0)]:=Y2 Tryz.underlying57 (by kernel_rfl) (by kernel_rfl)
theorem Qma:BI Tryz.prog 62 [(0,1),(1,1)] [(.int .i64 0),(.int .i64 0)]:=Y2 Tryz.underlying62 (by kernel_rfl) (by kernel_rfl)
theorem Quo:BI Tryz.prog 76 [(0,3)] [(.slice none 0 0),(.slice none 0 0),(.slice none 0 0)]:=Y2 Tryz.underlying76 (by kernel_rfl) (by kernel_rfl)
theorem Qmb:BI Tryz.prog 84 [(0,1),(1,1),(2,1)] [(.string ByteArray.empty),(.int .i64 0),(.bool false)]:=Y2 Tryz.underlying84 (by kernel_rfl) (by kernel_rfl)
theorem Qmc:BI Tryz.prog 86 [(0,1),(1,1),(2,1),(3,1)] [(.int .i64 0),(.int .i64 0),(.int .i64 0),(.int .i64 0)]:=Y2 Tryz.underlying86 (by kernel_rfl) (by kernel_rfl)
theorem Qej:BI Tryz.prog 88 [(0,1),(1,1)] [(.int .i64 0),(.int .i64 0)]:=Y2 Tryz.underlying88 (by kernel_rfl) (by kernel_rfl)
theorem Qmd:BI Tryz.prog 91 [(0,1),(1,1),(2,1),(3,1)] [(.string ByteArray.empty),(.int .i64 0),(.int .i64 0),(.slice none 0 0)]:=Y2 Tryz.underlying91 (by kernel_rfl) (by kernel_rfl)
theorem Qup:BI Tryz.prog 96 [(0,1),(1,1),(2,1)] [(.slice none 0 0),(.int .i64 0),(.bool false)]:=Y2 Tryz.underlying96 (by kernel_rfl) (by kernel_rfl)
theorem Qhp:BI Tryz.prog 100 [(0,4),(4,1)] [(.string ByteArray.empty),(.int .i64 0),(.int .i64 0),(.slice none 0 0),(.int .i64 0)]:=Y2 Tryz.underlying100 (by kernel_rfl) (by kernel_rfl)
theorem Qck:BI Tryz.prog 119 [(0,1),(1,1)] [(.int .i64 0),(.int .i64 0)]:=Y2 Tryz.underlying119 (by kernel_rfl) (by kernel_rfl)
theorem Qhq:BI Tryz.prog 125 [(0,1),(1,1),(2,1)] [(.int .i64 0),(.int .i64 0),(.int .i64 0)]:=Y2 Tryz.underlying125 (by kernel_rfl) (by kernel_rfl)
theorem Qly:BI Tryz.prog 168 [(0,1),(1,1),(2,1)] [(.string ByteArray.empty),(.string ByteArray.empty),.nilIface]:=Y2 Tryz.underlying168 (by kernel_rfl) (by kernel_rfl)
theorem Qcd:ZI Tryz.prog 23 [(.string ByteArray.empty),(.int .i64 0)]:=Y0 (by kernel_rfl)
theorem QKj:ZI Tryz.prog 42 [(.slice none 0 0),(.slice none 0 0),(.slice none 0 0)]:=Y0 (by kernel_rfl)
theorem Qlb:ZI Tryz.prog 47 [(.int .i64 0),(.int .i64 0),(.int .i64 0),(.int .i64 0),(.int .i64 0),(.int .i64 0)]:=Y0 (by kernel_rfl)
theorem QKk:ZI Tryz.prog 62 [(.int .i64 0),(.int .i64 0)]:=Y0 (by kernel_rfl)
theorem Qbf:ZI Tryz.prog 76 [(.slice none 0 0),(.slice none 0 0),(.slice none 0 0)]:=Y0 (by kernel_rfl)
theorem Qte:ZI Tryz.prog 84 [(.string ByteArray.empty),(.int .i64 0),(.bool false)]:=Y0 (by kernel_rfl)
theorem Qlc:ZI Tryz.prog 86 [(.int .i64 0),(.int .i64 0),(.int .i64 0),(.int .i64 0)]:=Y0 (by kernel_rfl)
theorem Qhb:ZI Tryz.prog 88 [(.int .i64 0),(.int .i64 0)]:=Y0 (by kernel_rfl)
theorem Qld:ZI Tryz.prog 91 [(.string ByteArray.empty),(.int .i64 0),(.int .i64 0),(.slice none 0 0)]:=Y0 (by kernel_rfl)
theorem J6:ZI Tryz.prog 96 [(.slice none 0 0),(.int .i64 0),(.bool false)]:=Y0 (by kernel_rfl)
theorem J5:ZI Tryz.prog 100 [(.string ByteArray.empty),(.int .i64 0),(.int .i64 0),(.slice none 0 0),(.int .i64 0)]:=Y0 (by kernel_rfl)
theorem Qtd:ZI Tryz.prog 119 [(.int .i64 0),(.int .i64 0)]:=Y0 (by kernel_rfl)
theorem Qla:ZI Tryz.prog 125 [(.int .i64 0),(.int .i64 0),(.int .i64 0)]:=Y0 (by kernel_rfl)
theorem QKi:ZI Tryz.prog 154 [(.int .u8 0),(.int .u8 0),(.int .u8 0),(.int .u8 0),(.int .u8 0),(.int .u8 0),(.int .u8 0),(.int .u8 0),(.int .u8 0),(.int .u8 0),(.int .u8 0),(.int .u8 0),(.int .u8 0),(.int .u8 0),(.int .u8 0),(.int .u8 0),(.int .u8 0),(.int .u8 0),(.int .u8 0),(.int .u8 0),(.int .u8 0),(.int .u8 0),(.int .u8 0),(.int .u8 0)]:=Y0 (by kernel_rfl)
theorem nm4:(Tryz.f4.name == numgo)=false:=by kernel_rfl
theorem nm5:(Tryz.f5.name == numgo)=false:=by kernel_rfl
theorem nm6:(Tryz.f6.name == numgo)=false:=by kernel_rfl
theorem nm7:(Tryz.f7.name == numgo)=false:=by kernel_rfl
theorem nm8:(Tryz.f8.name == numgo)=false:=by kernel_rfl
theorem nm9:(Tryz.f9.name == numgo)=false:=by kernel_rfl
theorem QBw:(Tryz.f10.name == numgo)=false:=by kernel_rfl
theorem QCd:(Tryz.f11.name == numgo)=false:=by kernel_rfl
theorem Qfv:(Tryz.f12.name == numgo)=false:=by kernel_rfl
theorem QCi:(Tryz.f13.name == numgo)=false:=by kernel_rfl
theorem QCj:(Tryz.f14.name == numgo)=false:=by kernel_rfl
theorem QCk:(Tryz.f15.name == numgo)=false:=by kernel_rfl
theorem QCl:(Tryz.f16.name == numgo)=false:=by kernel_rfl
theorem Qpd:(Tryz.f17.name == numgo)=false:=by kernel_rfl
theorem QCm:(Tryz.f18.name == numgo)=false:=by kernel_rfl
theorem QCn:(Tryz.f19.name == numgo)=false:=by kernel_rfl
theorem Qjh:(Tryz.f20.name == numgo)=false:=by kernel_rfl
theorem Qpe:(Tryz.f21.name == numgo)=false:=by kernel_rfl
theorem QCo:(Tryz.f22.name == numgo)=false:=by kernel_rfl
theorem QCp:(Tryz.f23.name == numgo)=false:=by kernel_rfl
theorem QCq:(Tryz.f24.name == numgo)=false:=by kernel_rfl
theorem Qpf:(Tryz.f25.name == numgo)=false:=by kernel_rfl
theorem QCr:(Tryz.f26.name == numgo)=false:=by kernel_rfl
theorem QCs:(Tryz.f27.name == numgo)=false:=by kernel_rfl
theorem QCt:(Tryz.f28.name == numgo)=false:=by kernel_rfl
theorem Qji:(Tryz.f29.name == numgo)=false:=by kernel_rfl
theorem ZN:(Tryz.f30.name == numgo)=false:=by kernel_rfl
theorem Qjj:(Tryz.f31.name == numgo)=false:=by kernel_rfl
theorem Qpg:(Tryz.f32.name == numgo)=false:=by kernel_rfl
theorem Qph:(Tryz.f33.name == numgo)=false:=by kernel_rfl
theorem QCu:(Tryz.f34.name == numgo)=false:=by kernel_rfl
theorem Qbs:(Tryz.f35.name == numgo)=false:=by kernel_rfl
theorem Qcx:(Tryz.f37.name == numgo)=false:=by kernel_rfl
theorem QCv:(Tryz.f38.name == numgo)=false:=by kernel_rfl
theorem Qpi:(Tryz.f39.name == numgo)=false:=by kernel_rfl
theorem Qpj:(Tryz.f40.name == numgo)=false:=by kernel_rfl
theorem Qpk:(Tryz.f41.name == numgo)=false:=by kernel_rfl
theorem Qpl:(Tryz.f42.name == numgo)=false:=by kernel_rfl
theorem QCw:(Tryz.f43.name == numgo)=false:=by kernel_rfl
theorem Yk:(Tryz.f44.name == numgo)=false:=by kernel_rfl
theorem QCx:(Tryz.f45.name == numgo)=false:=by kernel_rfl
theorem QCy:(Tryz.f46.name == numgo)=false:=by kernel_rfl
theorem QCz:(Tryz.f47.name == numgo)=false:=by kernel_rfl
theorem QDa:(Tryz.f48.name == numgo)=false:=by kernel_rfl
theorem QDb:(Tryz.f49.name == numgo)=false:=by kernel_rfl
theorem QDc:(Tryz.f50.name == numgo)=false:=by kernel_rfl
theorem QDd:(Tryz.f51.name == numgo)=false:=by kernel_rfl
theorem QDe:(Tryz.f52.name == numgo)=false:=by kernel_rfl
theorem QDf:(Tryz.f53.name == numgo)=false:=by kernel_rfl
theorem Je:(Tryz.f54.name == numgo)=false:=by kernel_rfl
theorem QDg:(Tryz.f55.name == numgo)=false:=by kernel_rfl
theorem QDh:(Tryz.f56.name == numgo)=false:=by kernel_rfl
theorem QDi:(Tryz.f57.name == numgo)=false:=by kernel_rfl
theorem Qpm:(Tryz.f58.name == numgo)=false:=by kernel_rfl
theorem Qpn:(Tryz.f59.name == numgo)=false:=by kernel_rfl
theorem Qfw:(Tryz.f60.name == numgo)=false:=by kernel_rfl
theorem Qpo:(Tryz.f61.name == numgo)=false:=by kernel_rfl
theorem Qpp:(Tryz.f62.name == numgo)=false:=by kernel_rfl
theorem QDj:(Tryz.f63.name == numgo)=false:=by kernel_rfl
theorem QDk:(Tryz.f64.name == numgo)=false:=by kernel_rfl
theorem Qpq:(Tryz.f65.name == numgo)=false:=by kernel_rfl
theorem QDl:(Tryz.f66.name == numgo)=false:=by kernel_rfl
theorem QDm:(Tryz.f67.name == numgo)=false:=by kernel_rfl
theorem QDn:(Tryz.f69.name == numgo)=false:=by kernel_rfl
theorem QDo:(Tryz.f70.name == numgo)=false:=by kernel_rfl
theorem QDp:(Tryz.f71.name == numgo)=false:=by kernel_rfl
theorem QDq:(Tryz.f72.name == numgo)=false:=by kernel_rfl
theorem QDr:(Tryz.f73.name == numgo)=false:=by kernel_rfl
theorem QDs:(Tryz.f76.name == numgo)=false:=by kernel_rfl
theorem QDt:(Tryz.f77.name == numgo)=false:=by kernel_rfl
theorem QDu:(Tryz.f78.name == numgo)=false:=by kernel_rfl
theorem QDv:(Tryz.f79.name == numgo)=false:=by kernel_rfl
theorem Qjk:(Tryz.f80.name == numgo)=false:=by kernel_rfl
theorem Qpr:(Tryz.f81.name == numgo)=false:=by kernel_rfl
theorem QDw:(Tryz.f82.name == numgo)=false:=by kernel_rfl
theorem QDx:(Tryz.f83.name == numgo)=false:=by kernel_rfl
theorem Qps:(Tryz.f84.name == numgo)=false:=by kernel_rfl
theorem Qpt:(Tryz.f85.name == numgo)=false:=by kernel_rfl
theorem QDy:(Tryz.f86.name == numgo)=false:=by kernel_rfl
theorem QDz:(Tryz.f87.name == numgo)=false:=by kernel_rfl
theorem Qpu:(Tryz.f88.name == numgo)=false:=by kernel_rfl
theorem Qpv:(Tryz.f89.name == numgo)=false:=by kernel_rfl
theorem QEa:(Tryz.f90.name == numgo)=false:=by kernel_rfl
theorem QEb:(Tryz.f91.name == numgo)=false:=by kernel_rfl
theorem QEc:(Tryz.f92.name == numgo)=false:=by kernel_rfl
theorem QEd:(Tryz.f96.name == numgo)=false:=by kernel_rfl
theorem QEe:(Tryz.f97.name == numgo)=false:=by kernel_rfl
theorem QEf:(Tryz.f98.name == numgo)=false:=by kernel_rfl
theorem Qpw:(Tryz.f99.name == numgo)=false:=by kernel_rfl
theorem QBx:(Tryz.f101.name == numgo)=false:=by kernel_rfl
theorem QBy:(Tryz.f102.name == numgo)=false:=by kernel_rfl
theorem QBz:(Tryz.f103.name == numgo)=false:=by kernel_rfl
theorem Qpc:(Tryz.f104.name == numgo)=false:=by kernel_rfl
theorem QCa:(Tryz.f105.name == numgo)=false:=by kernel_rfl
theorem QCb:(Tryz.f106.name == numgo)=false:=by kernel_rfl
theorem QCc:(Tryz.f107.name == numgo)=false:=by kernel_rfl
theorem QCe:(Tryz.f111.name == numgo)=false:=by kernel_rfl
theorem Jz:(Tryz.f115.name == numgo)=false:=by kernel_rfl
theorem QCf:(Tryz.f116.name == numgo)=false:=by kernel_rfl
theorem QCg:(Tryz.f117.name == numgo)=false:=by kernel_rfl
theorem QCh:(Tryz.f120.name == numgo)=false:=by kernel_rfl
theorem Qhz:Tryz.prog.eqGuardType Tryz.prog.depth 23=false:=by kernel_rfl
theorem Qib (a b:Nf):EqS Tryz.prog 23 (List.toArray [(.string a.Ni),(.int .i64 a.At)]) (List.toArray [(.string b.Ni),(.int .i64 b.At)]) (decide (a=b)):=by
  refine ⟨fun c hc=>by
    simp at hc
    repeat' (rcases hc with rfl | hc)
    all_goals simp_all [JV],fun w=>?_⟩
  have u3:=Tryz.underlying3
  have a3:=Tryz.isAgg3
  have z3:=Tryz.sizeOf3
  have u9:=Tryz.underlying9
  have a9:=Tryz.isAgg9
  have z9:=Tryz.sizeOf9
  have hS:Tryz.prog.underlying 23=some (.struct (Tryz.prog.fieldsOf 23)):=by kernel_rfl
  have hp:Tryz.prog.stoodInHeld 23=false:=by kernel_rfl
  rw [run_equalIn_agg w 9999 23 _ _ hS hp]
  simp only [Program.fieldsOf,Tryz.underlying23]
  go_simp
  cases a;cases b;simp only [Nf.mk.injEq]
  repeat' split
  all_goals simp_all [Qhr]
theorem Qvx:Tryz.prog.eqGuardType Tryz.prog.depth 47=false:=by kernel_rfl
theorem Qwf (a b:Nl):EqS Tryz.prog 47 (List.toArray [(.int .i64 a.Fed),(.int .i64 a.Used),(.int .i64 a.Nt),(.int .i64 a.Lost),(.int .i64 a.Back),(.int .i64 a.Ns)]) (List.toArray [(.int .i64 b.Fed),(.int .i64 b.Used),(.int .i64 b.Nt),(.int .i64 b.Lost),(.int .i64 b.Back),(.int .i64 b.Ns)]) (decide (a=b)):=by
  refine ⟨fun c hc=>by
    simp at hc
    repeat' (rcases hc with rfl | hc)
    all_goals simp_all [JV],fun w=>?_⟩
  have u3:=Tryz.underlying3
  have a3:=Tryz.isAgg3
  have z3:=Tryz.sizeOf3
  have hS:Tryz.prog.underlying 47=some (.struct (Tryz.prog.fieldsOf 47)):=by kernel_rfl
  have hp:Tryz.prog.stoodInHeld 47=false:=by kernel_rfl
  rw [run_equalIn_agg w 9999 47 _ _ hS hp]
  simp only [Program.fieldsOf,Tryz.underlying47]
  go_simp
  cases a;cases b;simp only [Nl.mk.injEq]
  repeat' split
  all_goals simp_all [Qhr]
theorem Qvy:Tryz.prog.eqGuardType Tryz.prog.depth 62=false:=by kernel_rfl
theorem Qwg (a b:Frac):EqS Tryz.prog 62 (List.toArray [(.int .i64 a.Num),(.int .i64 a.Den)]) (List.toArray [(.int .i64 b.Num),(.int .i64 b.Den)]) (decide (a=b)):=by
  refine ⟨fun c hc=>by
    simp at hc
    repeat' (rcases hc with rfl | hc)
    all_goals simp_all [JV],fun w=>?_⟩
  have u3:=Tryz.underlying3
  have a3:=Tryz.isAgg3
  have z3:=Tryz.sizeOf3
  have hS:Tryz.prog.underlying 62=some (.struct (Tryz.prog.fieldsOf 62)):=by kernel_rfl
  have hp:Tryz.prog.stoodInHeld 62=false:=by kernel_rfl
  rw [run_equalIn_agg w 9999 62 _ _ hS hp]
  simp only [Program.fieldsOf,Tryz.underlying62]
  go_simp
  cases a;cases b;simp only [Frac.mk.injEq]
  repeat' split
  all_goals simp_all [Qhr]
theorem Qxs:Tryz.f96.body.isNone=true:=by kernel_rfl
theorem Qzs:Extern.findNext Tryz.f96=none:=by kernel_rfl
theorem Qxu:Extern.find Tryz.f96=some Extern.BytealgCount.count:=by kernel_rfl
theorem Qxr:Tryz.f120.body.isNone=true:=by kernel_rfl
theorem Qzr:Extern.findNext Tryz.f120=none:=by kernel_rfl
theorem Qxt:Extern.find Tryz.f120=some Extern.BytealgIndexByte.indexByte:=by kernel_rfl
theorem ert:ErT Tryz.prog 137:=⟨Tryz.underlying137,_,rfl,by kernel_rfl⟩
theorem XL:Tryz.prog.follows .mixedOrders=true:=by kernel_rfl
end Go.Gw
