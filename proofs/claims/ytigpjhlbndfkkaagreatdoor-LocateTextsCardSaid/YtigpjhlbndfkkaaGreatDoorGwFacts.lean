/- Facts of the types of the program. No condition. -/
import Derived.Test.YtigpjhlbndfkkaaGreatDoorGwSt
import Derived.Test.YtigpjhlbndfkkaaGreatDoorGwCj6
import Derived.Laws.StructEq
import Derived.Laws.Externs
import Derived.Test.YtigpjhlbndfkkaaGreatDoorGwLib21
import Derived.Test.YtigpjhlbndfkkaaGreatDoorProg
set_option linter.unusedVariables false
set_option linter.unusedSimpArgs false
set_option linter.unusedSectionVars false
set_option maxRecDepth 100000
namespace Go.Gw
open Go Go.Proofs
abbrev numgo : String := "runtime.NumGoroutine"
theorem Qz:Q6 Tryz.prog 3 1:=YF (by kernel_rfl)
theorem sz4:Q6 Tryz.prog 4 1:=YF (by kernel_rfl)
theorem Xr:Q6 Tryz.prog 5 1:=YF (by kernel_rfl)
theorem Yr:Q6 Tryz.prog 9 1:=YF (by kernel_rfl)
theorem XU:Q6 Tryz.prog 22 1:=YF (by kernel_rfl)
theorem Ya:Q6 Tryz.prog 24 9:=YF (by kernel_rfl)
theorem JE:Q6 Tryz.prog 26 2:=YF (by kernel_rfl)
theorem QGw:Q6 Tryz.prog 33 1:=YF (by kernel_rfl)
theorem ZV:Q6 Tryz.prog 51 2:=YF (by kernel_rfl)
theorem ZM:Q6 Tryz.prog 55 2:=YF (by kernel_rfl)
theorem Qjh:Q6 Tryz.prog 60 2:=YF (by kernel_rfl)
theorem Zn:Q6 Tryz.prog 72 1:=YF (by kernel_rfl)
theorem Qrv:Q6 Tryz.prog 73 7:=YF (by kernel_rfl)
theorem Qdm:Q6 Tryz.prog 95 9:=YF (by kernel_rfl)
theorem Z6:Q6 Tryz.prog 109 2:=YF (by kernel_rfl)
theorem Qjg:Q6 Tryz.prog 128 12:=YF (by kernel_rfl)
theorem QGv:Q6 Tryz.prog 153 1:=YF (by kernel_rfl)
theorem QD:Y5 Tryz.prog 3:=⟨_,Tryz.underlying3,trivial⟩
theorem sc4:Y5 Tryz.prog 4:=⟨_,Tryz.underlying4,trivial⟩
theorem sc5:Y5 Tryz.prog 5:=⟨_,Tryz.underlying5,trivial⟩
theorem Y4:Y5 Tryz.prog 9:=⟨_,Tryz.underlying9,trivial⟩
theorem X8:Y5 Tryz.prog 22:=⟨_,Tryz.underlying22,trivial⟩
theorem QFj:Y5 Tryz.prog 33:=⟨_,Tryz.underlying33,trivial⟩
theorem Zw:Y5 Tryz.prog 72:=⟨_,Tryz.underlying72,trivial⟩
theorem Qqy:Y5 Tryz.prog 117:=⟨_,Tryz.underlying117,trivial⟩
theorem QFi:Y5 Tryz.prog 153:=⟨_,Tryz.underlying153,trivial⟩
theorem Xq:Aggr Tryz.prog 24 9:=Jt (by trivial) Tryz.underlying24 (by kernel_rfl)
theorem Zs:Aggr Tryz.prog 26 2:=Jt (by trivial) Tryz.underlying26 (by kernel_rfl)
theorem Z1:Aggr Tryz.prog 51 2:=Jt (by trivial) Tryz.underlying51 (by kernel_rfl)
theorem Je:Aggr Tryz.prog 55 2:=Jt (by trivial) Tryz.underlying55 (by kernel_rfl)
theorem Qdt:Aggr Tryz.prog 60 2:=Jt (by trivial) Tryz.underlying60 (by kernel_rfl)
theorem Qkk:Aggr Tryz.prog 73 7:=Jt (by trivial) Tryz.underlying73 (by kernel_rfl)
theorem Jf:Aggr Tryz.prog 95 9:=Jt (by trivial) Tryz.underlying95 (by kernel_rfl)
theorem Qcp:Aggr Tryz.prog 109 2:=Jt (by trivial) Tryz.underlying109 (by kernel_rfl)
theorem Qbg:Aggr Tryz.prog 128 12:=Jt (by trivial) Tryz.underlying128 (by kernel_rfl)
theorem YQ:EInfo Tryz.prog 3 1 8 (.int .i64 0):=Qan (by kernel_rfl) rfl (by decide)
theorem ei5:EInfo Tryz.prog 5 1 1 (.int .u8 0):=Qan (by kernel_rfl) rfl (by decide)
theorem YB:EInfo Tryz.prog 9 1 16 (.string ByteArray.empty):=Qan (by kernel_rfl) rfl (by decide)
theorem JQ:EInfo Tryz.prog 33 1 8 (.int .i64 0):=Qan (by kernel_rfl) rfl (by decide)
theorem Qbm:EInfo Tryz.prog 51 2 16 (.agg (List.toArray [(.int .i64 0),(.int .i64 0)])):=Qan (by kernel_rfl) rfl (by decide)
theorem Qvy:EInfo Tryz.prog 55 2 16 (.agg (List.toArray [(.int .i64 0),(.int .i64 0)])):=Qan (by kernel_rfl) rfl (by decide)
theorem Qlz:EInfo Tryz.prog 109 2 16 (.agg (List.toArray [(.int .i64 0),(.int .i64 0)])):=Qan (by kernel_rfl) rfl (by decide)
theorem Qcw:BI Tryz.prog 24 [(0,1),(1,1),(2,1),(3,1),(4,1),(5,1),(6,1),(7,1),(8,1)] [(.slice none 0 0),(.int .i64 0),(.int .i64 0),(.int .i64 0),(.int .i64 0),(.int .i64 0),(.int .i64 0),(.int .i64 0),(.bool false)]:=JL Tryz.underlying24 (by kernel_rfl) (by kernel_rfl)
theorem Qaf:BI Tryz.prog 26 [(0,1),(1,1)] [(.slice none 0 0),(.int .i64 0)]:=JL Tryz.underlying26 (by kernel_rfl) (by kernel_rfl)
theorem Qag:BI Tryz.prog 51 [(0,1),(1,1)] [(.int .i64 0),(.int .i64 0)]:=JL Tryz.underlying51 (by kernel_rfl) (by kernel_rfl)
theorem JK:BI Tryz.prog 55 [(0,1),(1,1)] [(.int .i64 0),(.int .i64 0)]:=JL Tryz.underlying55 (by kernel_rfl) (by kernel_rfl)
theorem Qlb:BI Tryz.prog 60 [(0,1),(1,1)] [(.int .i64 0),(.int .i64 0)]:=JL Tryz.underlying60 (by kernel_rfl) (by kernel_rfl)
theorem Qul:BI Tryz.prog 95 [(0,9)] [(.slice none 0 0),(.int .i64 0),(.int .i64 0),(.int .i64 0),(.int .i64 0),(.int .i64 0),(.int .i64 0),(.int .i64 0),(.bool false)]:=JL Tryz.underlying95 (by kernel_rfl) (by kernel_rfl)
theorem Qkz:BI Tryz.prog 109 [(0,1),(1,1)] [(.int .i64 0),(.int .i64 0)]:=JL Tryz.underlying109 (by kernel_rfl) (by kernel_rfl)
theorem Qla:BI Tryz.prog 185 [(0,1),(1,1),(2,1)] [(.string ByteArray.empty),(.string ByteArray.empty),.nilIface]:=JL Tryz.underlying185 (by kernel_rfl) (by kernel_rfl)
theorem Jo:ZI Tryz.prog 24 [(.slice none 0 0),(.int .i64 0),(.int .i64 0),(.int .i64 0),(.int .i64 0),(.int .i64 0),(.int .i64 0),(.int .i64 0),(.bool false)]:=ZZ (by kernel_rfl)
theorem Qcj:ZI Tryz.prog 26 [(.slice none 0 0),(.int .i64 0)]:=ZZ (by kernel_rfl)
theorem Qck:ZI Tryz.prog 51 [(.int .i64 0),(.int .i64 0)]:=ZZ (by kernel_rfl)
theorem Qcl:ZI Tryz.prog 55 [(.int .i64 0),(.int .i64 0)]:=ZZ (by kernel_rfl)
theorem Qjx:ZI Tryz.prog 60 [(.int .i64 0),(.int .i64 0)]:=ZZ (by kernel_rfl)
theorem Qjy:ZI Tryz.prog 73 [(.pointer none),(.pointer none),(.pointer none),(.pointer none),(.pointer none),(.pointer none),(.pointer none)]:=ZZ (by kernel_rfl)
theorem QKf:ZI Tryz.prog 89 [(.int .i64 0),(.int .i64 0),(.int .i64 0),(.int .i64 0),(.int .i64 0),(.int .i64 0),(.int .i64 0)]:=ZZ (by kernel_rfl)
theorem Qdr:ZI Tryz.prog 95 [(.slice none 0 0),(.int .i64 0),(.int .i64 0),(.int .i64 0),(.int .i64 0),(.int .i64 0),(.int .i64 0),(.int .i64 0),(.bool false)]:=ZZ (by kernel_rfl)
theorem QKd:ZI Tryz.prog 109 [(.int .i64 0),(.int .i64 0)]:=ZZ (by kernel_rfl)
theorem Qtk:ZI Tryz.prog 115 [(.pointer none),(.slice none 0 0)]:=ZZ (by kernel_rfl)
theorem Qdq:ZI Tryz.prog 128 [(.int .i64 0),(.int .i64 0),(.int .i64 0),(.int .i64 0),(.int .i64 0),(.int .i64 0),(.int .i64 0),(.int .i64 0),(.int .i64 0),(.int .i64 0),(.int .i64 0),(.int .i64 0)]:=ZZ (by kernel_rfl)
theorem QKe:ZI Tryz.prog 156 [(.int .u8 0),(.int .u8 0),(.int .u8 0),(.int .u8 0),(.int .u8 0),(.int .u8 0),(.int .u8 0),(.int .u8 0),(.int .u8 0),(.int .u8 0),(.int .u8 0),(.int .u8 0),(.int .u8 0),(.int .u8 0),(.int .u8 0),(.int .u8 0),(.int .u8 0),(.int .u8 0),(.int .u8 0),(.int .u8 0),(.int .u8 0),(.int .u8 0),(.int .u8 0),(.int .u8 0)]:=ZZ (by kernel_rfl)
theorem nm4:(Tryz.f4.name == numgo)=false:=by kernel_rfl
theorem nm5:(Tryz.f5.name == numgo)=false:=by kernel_rfl
theorem nm6:(Tryz.f6.name == numgo)=false:=by kernel_rfl
theorem nm7:(Tryz.f7.name == numgo)=false:=by kernel_rfl
theorem nm8:(Tryz.f8.name == numgo)=false:=by kernel_rfl
theorem nm9:(Tryz.f9.name == numgo)=false:=by kernel_rfl
theorem Qoj:(Tryz.f10.name == numgo)=false:=by kernel_rfl
theorem Qol:(Tryz.f11.name == numgo)=false:=by kernel_rfl
theorem QBf:(Tryz.f12.name == numgo)=false:=by kernel_rfl
theorem QBj:(Tryz.f13.name == numgo)=false:=by kernel_rfl
theorem QBm:(Tryz.f14.name == numgo)=false:=by kernel_rfl
theorem Qon:(Tryz.f15.name == numgo)=false:=by kernel_rfl
theorem QBo:(Tryz.f16.name == numgo)=false:=by kernel_rfl
theorem Qet:(Tryz.f17.name == numgo)=false:=by kernel_rfl
theorem Qoo:(Tryz.f18.name == numgo)=false:=by kernel_rfl
theorem QBp:(Tryz.f19.name == numgo)=false:=by kernel_rfl
theorem QBq:(Tryz.f20.name == numgo)=false:=by kernel_rfl
theorem Qop:(Tryz.f21.name == numgo)=false:=by kernel_rfl
theorem QBr:(Tryz.f22.name == numgo)=false:=by kernel_rfl
theorem QBs:(Tryz.f23.name == numgo)=false:=by kernel_rfl
theorem QBt:(Tryz.f24.name == numgo)=false:=by kernel_rfl
theorem QBu:(Tryz.f25.name == numgo)=false:=by kernel_rfl
theorem Qif:(Tryz.f26.name == numgo)=false:=by kernel_rfl
theorem QBv:(Tryz.f27.name == numgo)=false:=by kernel_rfl
theorem Qoq:(Tryz.f28.name == numgo)=false:=by kernel_rfl
theorem JA:(Tryz.f29.name == numgo)=false:=by kernel_rfl
theorem Qor:(Tryz.f30.name == numgo)=false:=by kernel_rfl
theorem Qos:(Tryz.f31.name == numgo)=false:=by kernel_rfl
theorem Qot:(Tryz.f32.name == numgo)=false:=by kernel_rfl
theorem QBw:(Tryz.f33.name == numgo)=false:=by kernel_rfl
theorem Qou:(Tryz.f34.name == numgo)=false:=by kernel_rfl
theorem J0:(Tryz.f35.name == numgo)=false:=by kernel_rfl
theorem QBx:(Tryz.f36.name == numgo)=false:=by kernel_rfl
theorem Qov:(Tryz.f37.name == numgo)=false:=by kernel_rfl
theorem Qow:(Tryz.f38.name == numgo)=false:=by kernel_rfl
theorem Qox:(Tryz.f39.name == numgo)=false:=by kernel_rfl
theorem Qoy:(Tryz.f40.name == numgo)=false:=by kernel_rfl
theorem Qoz:(Tryz.f41.name == numgo)=false:=by kernel_rfl
theorem Qpa:(Tryz.f42.name == numgo)=false:=by kernel_rfl
theorem QBy:(Tryz.f43.name == numgo)=false:=by kernel_rfl
theorem QBz:(Tryz.f44.name == numgo)=false:=by kernel_rfl
theorem QCa:(Tryz.f45.name == numgo)=false:=by kernel_rfl
theorem Jm:(Tryz.f46.name == numgo)=false:=by kernel_rfl
theorem Qpb:(Tryz.f47.name == numgo)=false:=by kernel_rfl
theorem Qpc:(Tryz.f48.name == numgo)=false:=by kernel_rfl
theorem QCb:(Tryz.f49.name == numgo)=false:=by kernel_rfl
theorem QCc:(Tryz.f50.name == numgo)=false:=by kernel_rfl
theorem J2:(Tryz.f51.name == numgo)=false:=by kernel_rfl
theorem Y9:(Tryz.f52.name == numgo)=false:=by kernel_rfl
theorem ZH:(Tryz.f53.name == numgo)=false:=by kernel_rfl
theorem Qpd:(Tryz.f54.name == numgo)=false:=by kernel_rfl
theorem Qpe:(Tryz.f55.name == numgo)=false:=by kernel_rfl
theorem QCd:(Tryz.f56.name == numgo)=false:=by kernel_rfl
theorem QCe:(Tryz.f57.name == numgo)=false:=by kernel_rfl
theorem QCf:(Tryz.f58.name == numgo)=false:=by kernel_rfl
theorem QCg:(Tryz.f59.name == numgo)=false:=by kernel_rfl
theorem Qig:(Tryz.f60.name == numgo)=false:=by kernel_rfl
theorem Qpf:(Tryz.f61.name == numgo)=false:=by kernel_rfl
theorem Qpg:(Tryz.f62.name == numgo)=false:=by kernel_rfl
theorem QCh:(Tryz.f63.name == numgo)=false:=by kernel_rfl
theorem QCi:(Tryz.f64.name == numgo)=false:=by kernel_rfl
theorem Qih:(Tryz.f65.name == numgo)=false:=by kernel_rfl
theorem QCj:(Tryz.f66.name == numgo)=false:=by kernel_rfl
theorem QCk:(Tryz.f67.name == numgo)=false:=by kernel_rfl
theorem QCl:(Tryz.f68.name == numgo)=false:=by kernel_rfl
theorem Qii:(Tryz.f69.name == numgo)=false:=by kernel_rfl
theorem QCm:(Tryz.f70.name == numgo)=false:=by kernel_rfl
theorem QCn:(Tryz.f71.name == numgo)=false:=by kernel_rfl
theorem QCo:(Tryz.f72.name == numgo)=false:=by kernel_rfl
theorem QCp:(Tryz.f73.name == numgo)=false:=by kernel_rfl
theorem QCq:(Tryz.f74.name == numgo)=false:=by kernel_rfl
theorem QCr:(Tryz.f75.name == numgo)=false:=by kernel_rfl
theorem QCs:(Tryz.f76.name == numgo)=false:=by kernel_rfl
theorem QCt:(Tryz.f77.name == numgo)=false:=by kernel_rfl
theorem QCu:(Tryz.f78.name == numgo)=false:=by kernel_rfl
theorem QCv:(Tryz.f79.name == numgo)=false:=by kernel_rfl
theorem QCw:(Tryz.f80.name == numgo)=false:=by kernel_rfl
theorem Qph:(Tryz.f81.name == numgo)=false:=by kernel_rfl
theorem Qpi:(Tryz.f82.name == numgo)=false:=by kernel_rfl
theorem QCx:(Tryz.f83.name == numgo)=false:=by kernel_rfl
theorem QCy:(Tryz.f84.name == numgo)=false:=by kernel_rfl
theorem QCz:(Tryz.f86.name == numgo)=false:=by kernel_rfl
theorem Qpj:(Tryz.f88.name == numgo)=false:=by kernel_rfl
theorem QDa:(Tryz.f89.name == numgo)=false:=by kernel_rfl
theorem QDb:(Tryz.f90.name == numgo)=false:=by kernel_rfl
theorem QDc:(Tryz.f92.name == numgo)=false:=by kernel_rfl
theorem QDd:(Tryz.f93.name == numgo)=false:=by kernel_rfl
theorem QDe:(Tryz.f94.name == numgo)=false:=by kernel_rfl
theorem Qok:(Tryz.f103.name == numgo)=false:=by kernel_rfl
theorem QAy:(Tryz.f105.name == numgo)=false:=by kernel_rfl
theorem QAz:(Tryz.f106.name == numgo)=false:=by kernel_rfl
theorem QBa:(Tryz.f107.name == numgo)=false:=by kernel_rfl
theorem QBb:(Tryz.f110.name == numgo)=false:=by kernel_rfl
theorem QBc:(Tryz.f114.name == numgo)=false:=by kernel_rfl
theorem QBd:(Tryz.f115.name == numgo)=false:=by kernel_rfl
theorem QBe:(Tryz.f116.name == numgo)=false:=by kernel_rfl
theorem QBg:(Tryz.f121.name == numgo)=false:=by kernel_rfl
theorem QBh:(Tryz.f127.name == numgo)=false:=by kernel_rfl
theorem QBi:(Tryz.f128.name == numgo)=false:=by kernel_rfl
theorem QBk:(Tryz.f131.name == numgo)=false:=by kernel_rfl
theorem QBl:(Tryz.f133.name == numgo)=false:=by kernel_rfl
theorem Qom:(Tryz.f134.name == numgo)=false:=by kernel_rfl
theorem Jz:(Tryz.f140.name == numgo)=false:=by kernel_rfl
theorem QBn:(Tryz.f141.name == numgo)=false:=by kernel_rfl
theorem Qly:Tryz.prog.eqGuardType Tryz.prog.depth 51=false:=by kernel_rfl
theorem Qmc (a b:Range):EqS Tryz.prog 51 (List.toArray [(.int .i64 a.Lo),(.int .i64 a.Hi)]) (List.toArray [(.int .i64 b.Lo),(.int .i64 b.Hi)]) (decide (a=b)):=by
  refine ⟨fun c hc=>by
    simp at hc
    repeat' (rcases hc with rfl | hc)
    all_goals simp_all [JT],fun w=>?_⟩
  have u3:=Tryz.underlying3
  have a3:=Tryz.isAgg3
  have z3:=Tryz.sizeOf3
  have hS:Tryz.prog.underlying 51=some (.struct (Tryz.prog.fieldsOf 51)):=by kernel_rfl
  have hp:Tryz.prog.stoodInHeld 51=false:=by kernel_rfl
  rw [run_equalIn_agg w 9999 51 _ _ hS hp]
  simp only [Program.fieldsOf,Tryz.underlying51]
  go_simp
  cases a;cases b;simp only [Range.mk.injEq]
  repeat' split
  all_goals simp_all [Qgy]
theorem Qvw:Tryz.prog.eqGuardType Tryz.prog.depth 55=false:=by kernel_rfl
theorem Qwa (a b:Nk):EqS Tryz.prog 55 (List.toArray [(.int .i64 a.Nc),(.int .i64 a.Rest)]) (List.toArray [(.int .i64 b.Nc),(.int .i64 b.Rest)]) (decide (a=b)):=by
  refine ⟨fun c hc=>by
    simp at hc
    repeat' (rcases hc with rfl | hc)
    all_goals simp_all [JT],fun w=>?_⟩
  have u3:=Tryz.underlying3
  have a3:=Tryz.isAgg3
  have z3:=Tryz.sizeOf3
  have hS:Tryz.prog.underlying 55=some (.struct (Tryz.prog.fieldsOf 55)):=by kernel_rfl
  have hp:Tryz.prog.stoodInHeld 55=false:=by kernel_rfl
  rw [run_equalIn_agg w 9999 55 _ _ hS hp]
  simp only [Program.fieldsOf,Tryz.underlying55]
  go_simp
  cases a;cases b;simp only [Nk.mk.injEq]
  repeat' split
  all_goals simp_all [Qgy]
theorem Qvx:Tryz.prog.eqGuardType Tryz.prog.depth 60=false:=by kernel_rfl
theorem Qwb (a b:Np):EqS Tryz.prog 60 (List.toArray [(.int .i64 a.Steps),(.int .i64 a.Nr)]) (List.toArray [(.int .i64 b.Steps),(.int .i64 b.Nr)]) (decide (a=b)):=by
  refine ⟨fun c hc=>by
    simp at hc
    repeat' (rcases hc with rfl | hc)
    all_goals simp_all [JT],fun w=>?_⟩
  have u3:=Tryz.underlying3
  have a3:=Tryz.isAgg3
  have z3:=Tryz.sizeOf3
  have hS:Tryz.prog.underlying 60=some (.struct (Tryz.prog.fieldsOf 60)):=by kernel_rfl
  have hp:Tryz.prog.stoodInHeld 60=false:=by kernel_rfl
  rw [run_equalIn_agg w 9999 60 _ _ hS hp]
  simp only [Program.fieldsOf,Tryz.underlying60]
  go_simp
  cases a;cases b;simp only [Np.mk.injEq]
  repeat' split
  all_goals simp_all [Qgy]
theorem Qxl:Tryz.f121.body.isNone=true:=by kernel_rfl
theorem Qxu:Extern.findNext Tryz.f121=none:=by kernel_rfl
theorem Qxn:Extern.find Tryz.f121=some Extern.BytealgCount.count:=by kernel_rfl
theorem Qxm:Tryz.f131.body.isNone=true:=by kernel_rfl
theorem Qxv:Extern.findNext Tryz.f131=none:=by kernel_rfl
theorem Qxo:Extern.find Tryz.f131=some Extern.BytealgIndexByte.indexByte:=by kernel_rfl
theorem ert:ErT Tryz.prog 162:=⟨Tryz.underlying162,_,rfl,by kernel_rfl⟩
theorem XO:Tryz.prog.follows .mixedOrders=true:=by kernel_rfl
end Go.Gw
