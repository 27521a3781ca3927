/- Facts of the types of the program. No condition. -/
import Derived.Test.YtibgnokgebjbfaaGreatDoorGwSt
import Derived.Test.YtibgnokgebjbfaaGreatDoorGwLib5
import Derived.Laws.StructEq
import Derived.Test.YtibgnokgebjbfaaGreatDoorProg
set_option linter.unusedVariables false
set_option linter.unusedSimpArgs false
set_option linter.unusedSectionVars false
set_option maxRecDepth 100000
namespace Go.Gw
open Go Go.Proofs
abbrev numgo : String := "runtime.NumGoroutine"
theorem QM:Xj Tryz.prog 3 1:=Yj (by kernel_rfl)
theorem sz5:Xj Tryz.prog 5 1:=Yj (by kernel_rfl)
theorem YP:Xj Tryz.prog 9 1:=Yj (by kernel_rfl)
theorem X7:Xj Tryz.prog 22 1:=Yj (by kernel_rfl)
theorem YB:Xj Tryz.prog 23 1:=Yj (by kernel_rfl)
theorem YK:Xj Tryz.prog 24 1:=Yj (by kernel_rfl)
theorem YU:Xj Tryz.prog 26 4:=Yj (by kernel_rfl)
theorem Q9:Xj Tryz.prog 30 1:=Yj (by kernel_rfl)
theorem YL:Xj Tryz.prog 31 1:=Yj (by kernel_rfl)
theorem Yb:Xj Tryz.prog 33 3:=Yj (by kernel_rfl)
theorem QQl:Xj Tryz.prog 34 1:=Yj (by kernel_rfl)
theorem Qmg:Xj Tryz.prog 46 3:=Yj (by kernel_rfl)
theorem YV:Xj Tryz.prog 56 3:=Yj (by kernel_rfl)
theorem Qmh:Xj Tryz.prog 64 5:=Yj (by kernel_rfl)
theorem Zk:Xj Tryz.prog 71 2:=Yj (by kernel_rfl)
theorem Qzc:Xj Tryz.prog 75 1:=Yj (by kernel_rfl)
theorem Yy:Xj Tryz.prog 86 2:=Yj (by kernel_rfl)
theorem Zp:Xj Tryz.prog 91 2:=Yj (by kernel_rfl)
theorem Qbv:Xj Tryz.prog 103 2:=Yj (by kernel_rfl)
theorem Qhs:Xj Tryz.prog 110 1:=Yj (by kernel_rfl)
theorem Qbb:Xj Tryz.prog 111 1:=Yj (by kernel_rfl)
theorem Qza:Xj Tryz.prog 136 1:=Yj (by kernel_rfl)
theorem Qzb:Xj Tryz.prog 139 4:=Yj (by kernel_rfl)
theorem QQj:Xj Tryz.prog 146 1:=Yj (by kernel_rfl)
theorem QQk:Xj Tryz.prog 149 1:=Yj (by kernel_rfl)
theorem Qht:Xj Tryz.prog 164 1:=Yj (by kernel_rfl)
theorem QS:YQ Tryz.prog 3:=⟨_,Tryz.underlying3,trivial⟩
theorem sc5:YQ Tryz.prog 5:=⟨_,Tryz.underlying5,trivial⟩
theorem Y6:YQ Tryz.prog 9:=⟨_,Tryz.underlying9,trivial⟩
theorem X6:YQ Tryz.prog 22:=⟨_,Tryz.underlying22,trivial⟩
theorem YA:YQ Tryz.prog 23:=⟨_,Tryz.underlying23,trivial⟩
theorem YT:YQ Tryz.prog 24:=⟨_,Tryz.underlying24,trivial⟩
theorem Xb:YQ Tryz.prog 30:=⟨_,Tryz.underlying30,trivial⟩
theorem Za:YQ Tryz.prog 31:=⟨_,Tryz.underlying31,trivial⟩
theorem QOq:YQ Tryz.prog 34:=⟨_,Tryz.underlying34,trivial⟩
theorem Qhj:YQ Tryz.prog 75:=⟨_,Tryz.underlying75,trivial⟩
theorem Qhg:YQ Tryz.prog 110:=⟨_,Tryz.underlying110,trivial⟩
theorem Qhh:YQ Tryz.prog 111:=⟨_,Tryz.underlying111,trivial⟩
theorem Qhi:YQ Tryz.prog 136:=⟨_,Tryz.underlying136,trivial⟩
theorem QOo:YQ Tryz.prog 146:=⟨_,Tryz.underlying146,trivial⟩
theorem QOp:YQ Tryz.prog 149:=⟨_,Tryz.underlying149,trivial⟩
theorem Qlz:YQ Tryz.prog 164:=⟨_,Tryz.underlying164,trivial⟩
theorem XY:Aggr Tryz.prog 26 4:=Qab (by trivial) Tryz.underlying26 (by kernel_rfl)
theorem YO:Aggr Tryz.prog 33 3:=Qab (by trivial) Tryz.underlying33 (by kernel_rfl)
theorem Qaa:Aggr Tryz.prog 46 3:=Qab (by trivial) Tryz.underlying46 (by kernel_rfl)
theorem Jr:Aggr Tryz.prog 56 3:=Qab (by trivial) Tryz.underlying56 (by kernel_rfl)
theorem Qfh:Aggr Tryz.prog 64 5:=Qab (by trivial) Tryz.underlying64 (by kernel_rfl)
theorem Qci:Aggr Tryz.prog 71 2:=Qab (by trivial) Tryz.underlying71 (by kernel_rfl)
theorem Yv:Aggr Tryz.prog 86 2:=Qab (by trivial) Tryz.underlying86 (by kernel_rfl)
theorem Qcj:Aggr Tryz.prog 91 2:=Qab (by trivial) Tryz.underlying91 (by kernel_rfl)
theorem Qim:Aggr Tryz.prog 103 2:=Qab (by trivial) Tryz.underlying103 (by kernel_rfl)
theorem QAw:Aggr Tryz.prog 139 4:=Qab (by trivial) Tryz.underlying139 (by kernel_rfl)
theorem YE:EInfo Tryz.prog 3 1 8 (.int .i64 0):=JM (by kernel_rfl) rfl (by decide)
theorem Z6:EInfo Tryz.prog 9 1 16 (.string ByteArray.empty):=JM (by kernel_rfl) rfl (by decide)
theorem QDc:EInfo Tryz.prog 30 1 24 (.slice none 0 0):=JM (by kernel_rfl) rfl (by decide)
theorem ZJ:EInfo Tryz.prog 34 1 8 (.int .i64 0):=JM (by kernel_rfl) rfl (by decide)
theorem QDd:EInfo Tryz.prog 46 3 24 (.agg (List.toArray [(.int .i64 0),(.int .i64 0),(.int .i64 0)])):=JM (by kernel_rfl) rfl (by decide)
theorem Qoe:EInfo Tryz.prog 56 3 64 (.agg (List.toArray [(.string ByteArray.empty),(.slice none 0 0),(.slice none 0 0)])):=JM (by kernel_rfl) rfl (by decide)
theorem YS:EInfo Tryz.prog 71 2 24 (.agg (List.toArray [(.string ByteArray.empty),(.int .i64 0)])):=JM (by kernel_rfl) rfl (by decide)
theorem Qbm:EInfo Tryz.prog 91 2 32 (.agg (List.toArray [(.slice none 0 0),(.int .i64 0)])):=JM (by kernel_rfl) rfl (by decide)
theorem Qua:EInfo Tryz.prog 103 2 16 (.agg (List.toArray [(.int .i64 0),(.int .i64 0)])):=JM (by kernel_rfl) rfl (by decide)
theorem QDb:EInfo Tryz.prog 136 1 24 (.slice none 0 0):=JM (by kernel_rfl) rfl (by decide)
theorem Qub:EInfo Tryz.prog 139 4 32 (.agg (List.toArray [(.int .i64 0),(.int .i64 0),(.int .i64 0),(.pointer none)])):=JM (by kernel_rfl) rfl (by decide)
theorem Qod:EInfo Tryz.prog 146 1 8 (.pointer none):=JM (by kernel_rfl) rfl (by decide)
theorem Zy:BI Tryz.prog 26 [(0,1),(1,1),(2,1),(3,1)] [(.slice none 0 0),(.slice none 0 0),(.slice none 0 0),(.slice none 0 0)]:=JY Tryz.underlying26 (by kernel_rfl) (by kernel_rfl)
theorem Qar:BI Tryz.prog 33 [(0,1),(1,1),(2,1)] [(.slice none 0 0),(.slice none 0 0),(.int .i64 0)]:=JY Tryz.underlying33 (by kernel_rfl) (by kernel_rfl)
theorem Qip:BI Tryz.prog 46 [(0,1),(1,1),(2,1)] [(.int .i64 0),(.int .i64 0),(.int .i64 0)]:=JY Tryz.underlying46 (by kernel_rfl) (by kernel_rfl)
theorem Qiq:BI Tryz.prog 56 [(0,1),(1,1),(2,1)] [(.string ByteArray.empty),(.slice none 0 0),(.slice none 0 0)]:=JY Tryz.underlying56 (by kernel_rfl) (by kernel_rfl)
theorem QBk:BI Tryz.prog 71 [(0,1),(1,1)] [(.string ByteArray.empty),(.int .i64 0)]:=JY Tryz.underlying71 (by kernel_rfl) (by kernel_rfl)
theorem Qfl:BI Tryz.prog 78 [(0,4),(4,3)] [(.slice none 0 0),(.slice none 0 0),(.slice none 0 0),(.slice none 0 0),(.slice none 0 0),(.slice none 0 0),(.int .i64 0)]:=JY Tryz.underlying78 (by kernel_rfl) (by kernel_rfl)
theorem Js:BI Tryz.prog 86 [(0,1),(1,1)] [(.int .i64 0),(.int .i64 0)]:=JY Tryz.underlying86 (by kernel_rfl) (by kernel_rfl)
theorem Qnt:BI Tryz.prog 91 [(0,1),(1,1)] [(.slice none 0 0),(.int .i64 0)]:=JY Tryz.underlying91 (by kernel_rfl) (by kernel_rfl)
theorem QBi:BI Tryz.prog 113 [(0,1),(1,1)] [(.map none),(.slice none 0 0)]:=JY Tryz.underlying113 (by kernel_rfl) (by kernel_rfl)
theorem QBj:BI Tryz.prog 139 [(0,3),(3,1)] [(.int .i64 0),(.int .i64 0),(.int .i64 0),(.pointer none)]:=JY Tryz.underlying139 (by kernel_rfl) (by kernel_rfl)
theorem Qti:BI Tryz.prog 148 [(0,1),(1,1),(2,3)] [(.pointer none),(.pointer none),(.int .i64 0),(.int .i64 0),(.int .i64 0)]:=JY Tryz.underlying148 (by kernel_rfl) (by kernel_rfl)
theorem Jk:ZI Tryz.prog 26 [(.slice none 0 0),(.slice none 0 0),(.slice none 0 0),(.slice none 0 0)]:=ZE (by kernel_rfl)
theorem Jl:ZI Tryz.prog 33 [(.slice none 0 0),(.slice none 0 0),(.int .i64 0)]:=ZE (by kernel_rfl)
theorem QAg:ZI Tryz.prog 46 [(.int .i64 0),(.int .i64 0),(.int .i64 0)]:=ZE (by kernel_rfl)
theorem Qap:ZI Tryz.prog 56 [(.string ByteArray.empty),(.slice none 0 0),(.slice none 0 0)]:=ZE (by kernel_rfl)
theorem Qez:ZI Tryz.prog 64 [(.int .i64 0),(.int .i64 0),(.int .i64 0),(.int .i64 0),(.int .i64 0)]:=ZE (by kernel_rfl)
theorem Qih:ZI Tryz.prog 71 [(.string ByteArray.empty),(.int .i64 0)]:=ZE (by kernel_rfl)
theorem ZT:ZI Tryz.prog 86 [(.int .i64 0),(.int .i64 0)]:=ZE (by kernel_rfl)
theorem Qfa:ZI Tryz.prog 91 [(.slice none 0 0),(.int .i64 0)]:=ZE (by kernel_rfl)
theorem QTp:ZI Tryz.prog 103 [(.int .i64 0),(.int .i64 0)]:=ZE (by kernel_rfl)
theorem QAf:ZI Tryz.prog 117 [(.pointer none),(.slice none 0 0)]:=ZE (by kernel_rfl)
theorem QTq:ZI Tryz.prog 136 [(.slice none 0 0)]:=ZE (by kernel_rfl)
theorem QTr:ZI Tryz.prog 139 [(.int .i64 0),(.int .i64 0),(.int .i64 0),(.pointer none)]:=ZE (by kernel_rfl)
theorem QTs:ZI Tryz.prog 149 [(.slice none 0 0)]:=ZE (by kernel_rfl)
theorem QTt:ZI Tryz.prog 169 [.nilFunc,.nilFunc,.nilFunc,.nilFunc]:=ZE (by kernel_rfl)
theorem nm6:(Tryz.f6.name == numgo)=false:=by kernel_rfl
theorem nm7:(Tryz.f7.name == numgo)=false:=by kernel_rfl
theorem nm8:(Tryz.f8.name == numgo)=false:=by kernel_rfl
theorem nm9:(Tryz.f9.name == numgo)=false:=by kernel_rfl
theorem QJm:(Tryz.f11.name == numgo)=false:=by kernel_rfl
theorem Qkq:(Tryz.f14.name == numgo)=false:=by kernel_rfl
theorem QJx:(Tryz.f15.name == numgo)=false:=by kernel_rfl
theorem QKb:(Tryz.f16.name == numgo)=false:=by kernel_rfl
theorem QKd:(Tryz.f17.name == numgo)=false:=by kernel_rfl
theorem Qwd:(Tryz.f18.name == numgo)=false:=by kernel_rfl
theorem Qgm:(Tryz.f19.name == numgo)=false:=by kernel_rfl
theorem Qgn:(Tryz.f20.name == numgo)=false:=by kernel_rfl
theorem QKf:(Tryz.f22.name == numgo)=false:=by kernel_rfl
theorem QKg:(Tryz.f24.name == numgo)=false:=by kernel_rfl
theorem Qwe:(Tryz.f25.name == numgo)=false:=by kernel_rfl
theorem QKh:(Tryz.f26.name == numgo)=false:=by kernel_rfl
theorem QKi:(Tryz.f27.name == numgo)=false:=by kernel_rfl
theorem QKj:(Tryz.f28.name == numgo)=false:=by kernel_rfl
theorem Qqb:(Tryz.f29.name == numgo)=false:=by kernel_rfl
theorem ZM:(Tryz.f30.name == numgo)=false:=by kernel_rfl
theorem Qkr:(Tryz.f31.name == numgo)=false:=by kernel_rfl
theorem X5:(Tryz.f32.name == numgo)=false:=by kernel_rfl
theorem Qwf:(Tryz.f33.name == numgo)=false:=by kernel_rfl
theorem Qwg:(Tryz.f34.name == numgo)=false:=by kernel_rfl
theorem Qqc:(Tryz.f35.name == numgo)=false:=by kernel_rfl
theorem Qwh:(Tryz.f36.name == numgo)=false:=by kernel_rfl
theorem ZN:(Tryz.f37.name == numgo)=false:=by kernel_rfl
theorem Qgo:(Tryz.f38.name == numgo)=false:=by kernel_rfl
theorem QKk:(Tryz.f39.name == numgo)=false:=by kernel_rfl
theorem Qwi:(Tryz.f43.name == numgo)=false:=by kernel_rfl
theorem JS:(Tryz.f44.name == numgo)=false:=by kernel_rfl
theorem QKl:(Tryz.f45.name == numgo)=false:=by kernel_rfl
theorem Qwj:(Tryz.f46.name == numgo)=false:=by kernel_rfl
theorem Qgp:(Tryz.f47.name == numgo)=false:=by kernel_rfl
theorem QKm:(Tryz.f48.name == numgo)=false:=by kernel_rfl
theorem QKn:(Tryz.f49.name == numgo)=false:=by kernel_rfl
theorem Qqd:(Tryz.f51.name == numgo)=false:=by kernel_rfl
theorem QKo:(Tryz.f52.name == numgo)=false:=by kernel_rfl
theorem Qcw:(Tryz.f53.name == numgo)=false:=by kernel_rfl
theorem QKp:(Tryz.f54.name == numgo)=false:=by kernel_rfl
theorem QKq:(Tryz.f55.name == numgo)=false:=by kernel_rfl
theorem QKr:(Tryz.f56.name == numgo)=false:=by kernel_rfl
theorem Qwk:(Tryz.f57.name == numgo)=false:=by kernel_rfl
theorem Qks:(Tryz.f58.name == numgo)=false:=by kernel_rfl
theorem QKs:(Tryz.f59.name == numgo)=false:=by kernel_rfl
theorem QKt:(Tryz.f60.name == numgo)=false:=by kernel_rfl
theorem QKu:(Tryz.f61.name == numgo)=false:=by kernel_rfl
theorem Qcx:(Tryz.f62.name == numgo)=false:=by kernel_rfl
theorem Qec:(Tryz.f63.name == numgo)=false:=by kernel_rfl
theorem Qqe:(Tryz.f64.name == numgo)=false:=by kernel_rfl
theorem Qwl:(Tryz.f65.name == numgo)=false:=by kernel_rfl
theorem QKv:(Tryz.f66.name == numgo)=false:=by kernel_rfl
theorem Qay:(Tryz.f67.name == numgo)=false:=by kernel_rfl
theorem Qqf:(Tryz.f68.name == numgo)=false:=by kernel_rfl
theorem Qwm:(Tryz.f69.name == numgo)=false:=by kernel_rfl
theorem QKw:(Tryz.f70.name == numgo)=false:=by kernel_rfl
theorem Qkt:(Tryz.f71.name == numgo)=false:=by kernel_rfl
theorem Qed:(Tryz.f72.name == numgo)=false:=by kernel_rfl
theorem Qwn:(Tryz.f73.name == numgo)=false:=by kernel_rfl
theorem QKx:(Tryz.f74.name == numgo)=false:=by kernel_rfl
theorem Qwo:(Tryz.f75.name == numgo)=false:=by kernel_rfl
theorem QKy:(Tryz.f76.name == numgo)=false:=by kernel_rfl
theorem QKz:(Tryz.f77.name == numgo)=false:=by kernel_rfl
theorem QLa:(Tryz.f79.name == numgo)=false:=by kernel_rfl
theorem QLb:(Tryz.f80.name == numgo)=false:=by kernel_rfl
theorem QLc:(Tryz.f81.name == numgo)=false:=by kernel_rfl
theorem QLd:(Tryz.f82.name == numgo)=false:=by kernel_rfl
theorem Qqg:(Tryz.f84.name == numgo)=false:=by kernel_rfl
theorem Qwp:(Tryz.f85.name == numgo)=false:=by kernel_rfl
theorem QLe:(Tryz.f86.name == numgo)=false:=by kernel_rfl
theorem QLf:(Tryz.f87.name == numgo)=false:=by kernel_rfl
theorem QLg:(Tryz.f88.name == numgo)=false:=by kernel_rfl
theorem QLh:(Tryz.f94.name == numgo)=false:=by kernel_rfl
theorem QLi:(Tryz.f95.name == numgo)=false:=by kernel_rfl
theorem QLj:(Tryz.f96.name == numgo)=false:=by kernel_rfl
theorem Qwq:(Tryz.f97.name == numgo)=false:=by kernel_rfl
theorem QLk:(Tryz.f98.name == numgo)=false:=by kernel_rfl
theorem QLl:(Tryz.f99.name == numgo)=false:=by kernel_rfl
theorem QJc:(Tryz.f100.name == numgo)=false:=by kernel_rfl
theorem QJd:(Tryz.f101.name == numgo)=false:=by kernel_rfl
theorem QJe:(Tryz.f102.name == numgo)=false:=by kernel_rfl
theorem QJf:(Tryz.f103.name == numgo)=false:=by kernel_rfl
theorem QJg:(Tryz.f104.name == numgo)=false:=by kernel_rfl
theorem QJh:(Tryz.f105.name == numgo)=false:=by kernel_rfl
theorem QJi:(Tryz.f106.name == numgo)=false:=by kernel_rfl
theorem QJj:(Tryz.f107.name == numgo)=false:=by kernel_rfl
theorem QJk:(Tryz.f108.name == numgo)=false:=by kernel_rfl
theorem QJl:(Tryz.f109.name == numgo)=false:=by kernel_rfl
theorem QJn:(Tryz.f110.name == numgo)=false:=by kernel_rfl
theorem QJo:(Tryz.f111.name == numgo)=false:=by kernel_rfl
theorem Qpz:(Tryz.f112.name == numgo)=false:=by kernel_rfl
theorem QJp:(Tryz.f113.name == numgo)=false:=by kernel_rfl
theorem QJq:(Tryz.f115.name == numgo)=false:=by kernel_rfl
theorem QJr:(Tryz.f116.name == numgo)=false:=by kernel_rfl
theorem QJs:(Tryz.f117.name == numgo)=false:=by kernel_rfl
theorem QJt:(Tryz.f118.name == numgo)=false:=by kernel_rfl
theorem QJu:(Tryz.f119.name == numgo)=false:=by kernel_rfl
theorem QJv:(Tryz.f128.name == numgo)=false:=by kernel_rfl
theorem Qwc:(Tryz.f129.name == numgo)=false:=by kernel_rfl
theorem QJw:(Tryz.f149.name == numgo)=false:=by kernel_rfl
theorem Qqa:(Tryz.f151.name == numgo)=false:=by kernel_rfl
theorem QJy:(Tryz.f152.name == numgo)=false:=by kernel_rfl
theorem QJz:(Tryz.f153.name == numgo)=false:=by kernel_rfl
theorem QKa:(Tryz.f154.name == numgo)=false:=by kernel_rfl
theorem QKc:(Tryz.f165.name == numgo)=false:=by kernel_rfl
theorem QKe:(Tryz.f170.name == numgo)=false:=by kernel_rfl
theorem QDa:Tryz.prog.eqGuardType Tryz.prog.depth 64=false:=by kernel_rfl
theorem QDh (a b:Nx):EqS Tryz.prog 64 (List.toArray [(.int .i64 a.e0),(.int .i64 a.e1),(.int .i64 a.e2),(.int .i64 a.e3),(.int .i64 a.e4)]) (List.toArray [(.int .i64 b.e0),(.int .i64 b.e1),(.int .i64 b.e2),(.int .i64 b.e3),(.int .i64 b.e4)]) (decide (a=b)):=by
  refine ⟨by intro c hc;simp at hc;(repeat' (rcases hc with rfl | hc));all_goals (first | rfl | (subst hc;rfl) | simp_all [Qds]),fun w=>?_⟩
  have u3:=Tryz.underlying3
  have a3:=Tryz.isAgg3
  have z3:=Tryz.sizeOf3
  rw [Op.equalIn]
  simp only [Sem.run_bind,run_underlying Tryz.underlying64,Result.andThen_ok]
  simp only [Std.Legacy.Range.forIn_eq_forIn_range',Std.Legacy.Range.size,Nat.sub_zero,Nat.add_sub_cancel,Nat.div_one,List.range'_succ,List.range'_zero,List.forIn_cons,List.forIn_nil]
  go_simp
  cases a;cases b;simp only [Nx.mk.injEq]
  repeat' split
  all_goals simp_all
theorem XE:Tryz.prog.follows .mixedOrders=true:=by kernel_rfl
end Go.Gw
