/- Facts of the types of the program. No condition. -/
import Derived.Test.YtkdfngdamkbcnaaGreatDoorGwSt
import Derived.Test.YtkdfngdamkbcnaaGreatDoorGwLib5
import Derived.Laws.StructEq
import Derived.Test.YtkdfngdamkbcnaaGreatDoorProg
set_option linter.unusedVariables false
set_option linter.unusedSimpArgs false
set_option linter.unusedSectionVars false
set_option maxRecDepth 100000
namespace Go.Gw
open Go Go.Proofs
abbrev numgo : String := "runtime.NumGoroutine"
theorem QU:Xi Tryz.prog 3 1:=Yb (by kernel_rfl)
theorem sz5:Xi Tryz.prog 5 1:=Yb (by kernel_rfl)
theorem YH:Xi Tryz.prog 9 1:=Yb (by kernel_rfl)
theorem Yc:Xi Tryz.prog 22 1:=Yb (by kernel_rfl)
theorem Y4:Xi Tryz.prog 23 1:=Yb (by kernel_rfl)
theorem Yu:Xi Tryz.prog 24 1:=Yb (by kernel_rfl)
theorem YW:Xi Tryz.prog 26 4:=Yb (by kernel_rfl)
theorem XI:Xi Tryz.prog 27 1:=Yb (by kernel_rfl)
theorem J4:Xi Tryz.prog 28 1:=Yb (by kernel_rfl)
theorem YL:Xi Tryz.prog 30 3:=Yb (by kernel_rfl)
theorem Qlh:Xi Tryz.prog 32 3:=Yb (by kernel_rfl)
theorem Qli:Xi Tryz.prog 34 5:=Yb (by kernel_rfl)
theorem QQu:Xi Tryz.prog 38 1:=Yb (by kernel_rfl)
theorem Qaz:Xi Tryz.prog 61 2:=Yb (by kernel_rfl)
theorem QZ:Xi Tryz.prog 67 2:=Yb (by kernel_rfl)
theorem Ys:Xi Tryz.prog 71 2:=Yb (by kernel_rfl)
theorem ZK:Xi Tryz.prog 97 2:=Yb (by kernel_rfl)
theorem YM:Xi Tryz.prog 99 3:=Yb (by kernel_rfl)
theorem Qyk:Xi Tryz.prog 100 1:=Yb (by kernel_rfl)
theorem Qhb:Xi Tryz.prog 119 1:=Yb (by kernel_rfl)
theorem Qhc:Xi Tryz.prog 132 1:=Yb (by kernel_rfl)
theorem Qay:Xi Tryz.prog 133 1:=Yb (by kernel_rfl)
theorem QQs:Xi Tryz.prog 164 1:=Yb (by kernel_rfl)
theorem QQt:Xi Tryz.prog 167 1:=Yb (by kernel_rfl)
theorem Qyl:Xi Tryz.prog 179 1:=Yb (by kernel_rfl)
theorem Qym:Xi Tryz.prog 182 4:=Yb (by kernel_rfl)
theorem Qlg:Xi Tryz.prog 221 1:=Yb (by kernel_rfl)
theorem Q7:YG Tryz.prog 3:=⟨_,Tryz.underlying3,trivial⟩
theorem sc5:YG Tryz.prog 5:=⟨_,Tryz.underlying5,trivial⟩
theorem Y3:YG Tryz.prog 9:=⟨_,Tryz.underlying9,trivial⟩
theorem Ya:YG Tryz.prog 22:=⟨_,Tryz.underlying22,trivial⟩
theorem Y2:YG Tryz.prog 23:=⟨_,Tryz.underlying23,trivial⟩
theorem YC:YG Tryz.prog 24:=⟨_,Tryz.underlying24,trivial⟩
theorem XK:YG Tryz.prog 27:=⟨_,Tryz.underlying27,trivial⟩
theorem Qcz:YG Tryz.prog 28:=⟨_,Tryz.underlying28,trivial⟩
theorem QOp:YG Tryz.prog 38:=⟨_,Tryz.underlying38,trivial⟩
theorem Qgk:YG Tryz.prog 100:=⟨_,Tryz.underlying100,trivial⟩
theorem Qkr:YG Tryz.prog 119:=⟨_,Tryz.underlying119,trivial⟩
theorem Qgl:YG Tryz.prog 132:=⟨_,Tryz.underlying132,trivial⟩
theorem Qgm:YG Tryz.prog 133:=⟨_,Tryz.underlying133,trivial⟩
theorem QOn:YG Tryz.prog 164:=⟨_,Tryz.underlying164,trivial⟩
theorem QOo:YG Tryz.prog 167:=⟨_,Tryz.underlying167,trivial⟩
theorem Qgn:YG Tryz.prog 179:=⟨_,Tryz.underlying179,trivial⟩
theorem Qcy:YG Tryz.prog 221:=⟨_,Tryz.underlying221,trivial⟩
theorem Yk:Aggr Tryz.prog 26 4:=Qab (by trivial) Tryz.underlying26 (by kernel_rfl)
theorem JB:Aggr Tryz.prog 30 3:=Qab (by trivial) Tryz.underlying30 (by kernel_rfl)
theorem Qdj:Aggr Tryz.prog 32 3:=Qab (by trivial) Tryz.underlying32 (by kernel_rfl)
theorem Qfb:Aggr Tryz.prog 34 5:=Qab (by trivial) Tryz.underlying34 (by kernel_rfl)
theorem Qhp:Aggr Tryz.prog 61 2:=Qab (by trivial) Tryz.underlying61 (by kernel_rfl)
theorem XD:Aggr Tryz.prog 67 2:=Qab (by trivial) Tryz.underlying67 (by kernel_rfl)
theorem Ym:Aggr Tryz.prog 71 2:=Qab (by trivial) Tryz.underlying71 (by kernel_rfl)
theorem Qdk:Aggr Tryz.prog 97 2:=Qab (by trivial) Tryz.underlying97 (by kernel_rfl)
theorem Qaa:Aggr Tryz.prog 99 3:=Qab (by trivial) Tryz.underlying99 (by kernel_rfl)
theorem QAr:Aggr Tryz.prog 182 4:=Qab (by trivial) Tryz.underlying182 (by kernel_rfl)
theorem YR:EInfo Tryz.prog 3 1 8 (.int .i64 0):=JG (by kernel_rfl) rfl (by decide)
theorem Z0:EInfo Tryz.prog 9 1 16 (.string ByteArray.empty):=JG (by kernel_rfl) rfl (by decide)
theorem QDd:EInfo Tryz.prog 27 1 24 (.slice none 0 0):=JG (by kernel_rfl) rfl (by decide)
theorem QDe:EInfo Tryz.prog 32 3 24 (.agg (List.toArray [(.int .i64 0),(.int .i64 0),(.int .i64 0)])):=JG (by kernel_rfl) rfl (by decide)
theorem ZP:EInfo Tryz.prog 38 1 8 (.int .i64 0):=JG (by kernel_rfl) rfl (by decide)
theorem Qdr:EInfo Tryz.prog 61 2 32 (.agg (List.toArray [(.slice none 0 0),(.int .i64 0)])):=JG (by kernel_rfl) rfl (by decide)
theorem Qie:EInfo Tryz.prog 67 2 16 (.agg (List.toArray [(.int .i64 0),(.int .i64 0)])):=JG (by kernel_rfl) rfl (by decide)
theorem YK:EInfo Tryz.prog 97 2 24 (.agg (List.toArray [(.string ByteArray.empty),(.int .i64 0)])):=JG (by kernel_rfl) rfl (by decide)
theorem Qnh:EInfo Tryz.prog 99 3 64 (.agg (List.toArray [(.string ByteArray.empty),(.slice none 0 0),(.slice none 0 0)])):=JG (by kernel_rfl) rfl (by decide)
theorem Qng:EInfo Tryz.prog 164 1 8 (.pointer none):=JG (by kernel_rfl) rfl (by decide)
theorem QDc:EInfo Tryz.prog 179 1 24 (.slice none 0 0):=JG (by kernel_rfl) rfl (by decide)
theorem Qtc:EInfo Tryz.prog 182 4 32 (.agg (List.toArray [(.int .i64 0),(.int .i64 0),(.int .i64 0),(.pointer none)])):=JG (by kernel_rfl) rfl (by decide)
theorem Zt:BI Tryz.prog 26 [(0,1),(1,1),(2,1),(3,1)] [(.slice none 0 0),(.slice none 0 0),(.slice none 0 0),(.slice none 0 0)]:=JT Tryz.underlying26 (by kernel_rfl) (by kernel_rfl)
theorem Qdo:BI Tryz.prog 30 [(0,1),(1,1),(2,1)] [(.slice none 0 0),(.slice none 0 0),(.int .i64 0)]:=JT Tryz.underlying30 (by kernel_rfl) (by kernel_rfl)
theorem Qhv:BI Tryz.prog 32 [(0,1),(1,1),(2,1)] [(.int .i64 0),(.int .i64 0),(.int .i64 0)]:=JT Tryz.underlying32 (by kernel_rfl) (by kernel_rfl)
theorem Qsj:BI Tryz.prog 61 [(0,1),(1,1)] [(.slice none 0 0),(.int .i64 0)]:=JT Tryz.underlying61 (by kernel_rfl) (by kernel_rfl)
theorem Jn:BI Tryz.prog 71 [(0,1),(1,1)] [(.int .i64 0),(.int .i64 0)]:=JT Tryz.underlying71 (by kernel_rfl) (by kernel_rfl)
theorem QBj:BI Tryz.prog 97 [(0,1),(1,1)] [(.string ByteArray.empty),(.int .i64 0)]:=JT Tryz.underlying97 (by kernel_rfl) (by kernel_rfl)
theorem Qhw:BI Tryz.prog 99 [(0,1),(1,1),(2,1)] [(.string ByteArray.empty),(.slice none 0 0),(.slice none 0 0)]:=JT Tryz.underlying99 (by kernel_rfl) (by kernel_rfl)
theorem Qhu:BI Tryz.prog 108 [(0,4),(4,3)] [(.slice none 0 0),(.slice none 0 0),(.slice none 0 0),(.slice none 0 0),(.slice none 0 0),(.slice none 0 0),(.int .i64 0)]:=JT Tryz.underlying108 (by kernel_rfl) (by kernel_rfl)
theorem QBh:BI Tryz.prog 135 [(0,1),(1,1)] [(.map none),(.slice none 0 0)]:=JT Tryz.underlying135 (by kernel_rfl) (by kernel_rfl)
theorem Qsi:BI Tryz.prog 166 [(0,1),(1,1),(2,3)] [(.pointer none),(.pointer none),(.int .i64 0),(.int .i64 0),(.int .i64 0)]:=JT Tryz.underlying166 (by kernel_rfl) (by kernel_rfl)
theorem QBi:BI Tryz.prog 182 [(0,3),(3,1)] [(.int .i64 0),(.int .i64 0),(.int .i64 0),(.pointer none)]:=JT Tryz.underlying182 (by kernel_rfl) (by kernel_rfl)
theorem zi3:ZI Tryz.prog 3 [(.int .i64 0)]:=Zn (by kernel_rfl)
theorem Ji:ZI Tryz.prog 26 [(.slice none 0 0),(.slice none 0 0),(.slice none 0 0),(.slice none 0 0)]:=Zn (by kernel_rfl)
theorem Qeu:ZI Tryz.prog 30 [(.slice none 0 0),(.slice none 0 0),(.int .i64 0)]:=Zn (by kernel_rfl)
theorem Qzx:ZI Tryz.prog 32 [(.int .i64 0),(.int .i64 0),(.int .i64 0)]:=Zn (by kernel_rfl)
theorem Qev:ZI Tryz.prog 34 [(.int .i64 0),(.int .i64 0),(.int .i64 0),(.int .i64 0),(.int .i64 0)]:=Zn (by kernel_rfl)
theorem Qrk:ZI Tryz.prog 61 [(.slice none 0 0),(.int .i64 0)]:=Zn (by kernel_rfl)
theorem Qzy:ZI Tryz.prog 67 [(.int .i64 0),(.int .i64 0)]:=Zn (by kernel_rfl)
theorem Zz:ZI Tryz.prog 71 [(.int .i64 0),(.int .i64 0)]:=Zn (by kernel_rfl)
theorem Qmc:ZI Tryz.prog 97 [(.string ByteArray.empty),(.int .i64 0)]:=Zn (by kernel_rfl)
theorem Qce:ZI Tryz.prog 99 [(.string ByteArray.empty),(.slice none 0 0),(.slice none 0 0)]:=Zn (by kernel_rfl)
theorem QTr:ZI Tryz.prog 126 [.nilFunc,.nilFunc,.nilFunc,.nilFunc]:=Zn (by kernel_rfl)
theorem Qzw:ZI Tryz.prog 139 [(.pointer none),(.slice none 0 0)]:=Zn (by kernel_rfl)
theorem QTs:ZI Tryz.prog 167 [(.slice none 0 0)]:=Zn (by kernel_rfl)
theorem QTt:ZI Tryz.prog 179 [(.slice none 0 0)]:=Zn (by kernel_rfl)
theorem QTu:ZI Tryz.prog 182 [(.int .i64 0),(.int .i64 0),(.int .i64 0),(.pointer none)]:=Zn (by kernel_rfl)
theorem QTw:ZI Tryz.prog 221 [(.int .u64 0)]:=Zn (by kernel_rfl)
theorem nm6:(Tryz.f6.name == numgo)=false:=by kernel_rfl
theorem nm7:(Tryz.f7.name == numgo)=false:=by kernel_rfl
theorem QJa:(Tryz.f11.name == numgo)=false:=by kernel_rfl
theorem Qpb:(Tryz.f14.name == numgo)=false:=by kernel_rfl
theorem QJz:(Tryz.f18.name == numgo)=false:=by kernel_rfl
theorem Qpc:(Tryz.f20.name == numgo)=false:=by kernel_rfl
theorem Qvh:(Tryz.f22.name == numgo)=false:=by kernel_rfl
theorem Qvi:(Tryz.f24.name == numgo)=false:=by kernel_rfl
theorem QKa:(Tryz.f25.name == numgo)=false:=by kernel_rfl
theorem QKb:(Tryz.f26.name == numgo)=false:=by kernel_rfl
theorem QKc:(Tryz.f27.name == numgo)=false:=by kernel_rfl
theorem QKd:(Tryz.f28.name == numgo)=false:=by kernel_rfl
theorem QKe:(Tryz.f29.name == numgo)=false:=by kernel_rfl
theorem QKf:(Tryz.f30.name == numgo)=false:=by kernel_rfl
theorem Qvj:(Tryz.f31.name == numgo)=false:=by kernel_rfl
theorem QKg:(Tryz.f32.name == numgo)=false:=by kernel_rfl
theorem QKh:(Tryz.f33.name == numgo)=false:=by kernel_rfl
theorem Qpd:(Tryz.f34.name == numgo)=false:=by kernel_rfl
theorem ZS:(Tryz.f35.name == numgo)=false:=by kernel_rfl
theorem Yi:(Tryz.f36.name == numgo)=false:=by kernel_rfl
theorem Qvk:(Tryz.f37.name == numgo)=false:=by kernel_rfl
theorem Qpe:(Tryz.f38.name == numgo)=false:=by kernel_rfl
theorem QKi:(Tryz.f39.name == numgo)=false:=by kernel_rfl
theorem ZH:(Tryz.f44.name == numgo)=false:=by kernel_rfl
theorem Qvl:(Tryz.f45.name == numgo)=false:=by kernel_rfl
theorem Qjk:(Tryz.f46.name == numgo)=false:=by kernel_rfl
theorem Qvm:(Tryz.f47.name == numgo)=false:=by kernel_rfl
theorem QKj:(Tryz.f48.name == numgo)=false:=by kernel_rfl
theorem Qvn:(Tryz.f49.name == numgo)=false:=by kernel_rfl
theorem QKk:(Tryz.f50.name == numgo)=false:=by kernel_rfl
theorem Qjl:(Tryz.f51.name == numgo)=false:=by kernel_rfl
theorem Qvo:(Tryz.f53.name == numgo)=false:=by kernel_rfl
theorem QKl:(Tryz.f54.name == numgo)=false:=by kernel_rfl
theorem Qfz:(Tryz.f55.name == numgo)=false:=by kernel_rfl
theorem QKm:(Tryz.f56.name == numgo)=false:=by kernel_rfl
theorem ZJ:(Tryz.f57.name == numgo)=false:=by kernel_rfl
theorem QKn:(Tryz.f58.name == numgo)=false:=by kernel_rfl
theorem QKo:(Tryz.f59.name == numgo)=false:=by kernel_rfl
theorem Qvp:(Tryz.f60.name == numgo)=false:=by kernel_rfl
theorem QKp:(Tryz.f61.name == numgo)=false:=by kernel_rfl
theorem QKq:(Tryz.f62.name == numgo)=false:=by kernel_rfl
theorem QKr:(Tryz.f63.name == numgo)=false:=by kernel_rfl
theorem QKs:(Tryz.f64.name == numgo)=false:=by kernel_rfl
theorem QKt:(Tryz.f65.name == numgo)=false:=by kernel_rfl
theorem QKu:(Tryz.f66.name == numgo)=false:=by kernel_rfl
theorem QKv:(Tryz.f67.name == numgo)=false:=by kernel_rfl
theorem QKw:(Tryz.f68.name == numgo)=false:=by kernel_rfl
theorem QKx:(Tryz.f69.name == numgo)=false:=by kernel_rfl
theorem QKy:(Tryz.f70.name == numgo)=false:=by kernel_rfl
theorem QKz:(Tryz.f71.name == numgo)=false:=by kernel_rfl
theorem QLa:(Tryz.f72.name == numgo)=false:=by kernel_rfl
theorem Qvq:(Tryz.f73.name == numgo)=false:=by kernel_rfl
theorem Qvr:(Tryz.f74.name == numgo)=false:=by kernel_rfl
theorem QLb:(Tryz.f75.name == numgo)=false:=by kernel_rfl
theorem QLc:(Tryz.f76.name == numgo)=false:=by kernel_rfl
theorem QLd:(Tryz.f77.name == numgo)=false:=by kernel_rfl
theorem QLe:(Tryz.f78.name == numgo)=false:=by kernel_rfl
theorem QLf:(Tryz.f79.name == numgo)=false:=by kernel_rfl
theorem Qcu:(Tryz.f80.name == numgo)=false:=by kernel_rfl
theorem Qec:(Tryz.f81.name == numgo)=false:=by kernel_rfl
theorem Qpf:(Tryz.f82.name == numgo)=false:=by kernel_rfl
theorem Qvs:(Tryz.f83.name == numgo)=false:=by kernel_rfl
theorem Qbt:(Tryz.f84.name == numgo)=false:=by kernel_rfl
theorem Qvt:(Tryz.f89.name == numgo)=false:=by kernel_rfl
theorem QLg:(Tryz.f91.name == numgo)=false:=by kernel_rfl
theorem Qjm:(Tryz.f92.name == numgo)=false:=by kernel_rfl
theorem Qjn:(Tryz.f93.name == numgo)=false:=by kernel_rfl
theorem Qed:(Tryz.f94.name == numgo)=false:=by kernel_rfl
theorem QLh:(Tryz.f95.name == numgo)=false:=by kernel_rfl
theorem QLi:(Tryz.f96.name == numgo)=false:=by kernel_rfl
theorem Qvu:(Tryz.f97.name == numgo)=false:=by kernel_rfl
theorem QLj:(Tryz.f98.name == numgo)=false:=by kernel_rfl
theorem Qpg:(Tryz.f99.name == numgo)=false:=by kernel_rfl
theorem Qve:(Tryz.f100.name == numgo)=false:=by kernel_rfl
theorem QIw:(Tryz.f101.name == numgo)=false:=by kernel_rfl
theorem Qoz:(Tryz.f102.name == numgo)=false:=by kernel_rfl
theorem QIx:(Tryz.f103.name == numgo)=false:=by kernel_rfl
theorem QIy:(Tryz.f104.name == numgo)=false:=by kernel_rfl
theorem Qpa:(Tryz.f105.name == numgo)=false:=by kernel_rfl
theorem QIz:(Tryz.f106.name == numgo)=false:=by kernel_rfl
theorem QJb:(Tryz.f113.name == numgo)=false:=by kernel_rfl
theorem QJc:(Tryz.f114.name == numgo)=false:=by kernel_rfl
theorem QJd:(Tryz.f116.name == numgo)=false:=by kernel_rfl
theorem QJe:(Tryz.f117.name == numgo)=false:=by kernel_rfl
theorem QJf:(Tryz.f118.name == numgo)=false:=by kernel_rfl
theorem QJg:(Tryz.f119.name == numgo)=false:=by kernel_rfl
theorem QJh:(Tryz.f120.name == numgo)=false:=by kernel_rfl
theorem QJi:(Tryz.f121.name == numgo)=false:=by kernel_rfl
theorem QJj:(Tryz.f122.name == numgo)=false:=by kernel_rfl
theorem QJk:(Tryz.f123.name == numgo)=false:=by kernel_rfl
theorem QJl:(Tryz.f124.name == numgo)=false:=by kernel_rfl
theorem QJm:(Tryz.f125.name == numgo)=false:=by kernel_rfl
theorem QJn:(Tryz.f127.name == numgo)=false:=by kernel_rfl
theorem QJo:(Tryz.f129.name == numgo)=false:=by kernel_rfl
theorem Qvf:(Tryz.f130.name == numgo)=false:=by kernel_rfl
theorem QJp:(Tryz.f131.name == numgo)=false:=by kernel_rfl
theorem QJq:(Tryz.f145.name == numgo)=false:=by kernel_rfl
theorem QJr:(Tryz.f152.name == numgo)=false:=by kernel_rfl
theorem QJs:(Tryz.f154.name == numgo)=false:=by kernel_rfl
theorem QJt:(Tryz.f155.name == numgo)=false:=by kernel_rfl
theorem Qvg:(Tryz.f156.name == numgo)=false:=by kernel_rfl
theorem QJu:(Tryz.f157.name == numgo)=false:=by kernel_rfl
theorem QJv:(Tryz.f158.name == numgo)=false:=by kernel_rfl
theorem QJw:(Tryz.f160.name == numgo)=false:=by kernel_rfl
theorem QJx:(Tryz.f165.name == numgo)=false:=by kernel_rfl
theorem QJy:(Tryz.f167.name == numgo)=false:=by kernel_rfl
theorem Qct:(Tryz.f172.name == numgo)=false:=by kernel_rfl
theorem QCz:Tryz.prog.eqGuardType Tryz.prog.depth 34=false:=by kernel_rfl
theorem QDi (a b:Nx):EqS Tryz.prog 34 (List.toArray [(.int .i64 a.e0),(.int .i64 a.e1),(.int .i64 a.e2),(.int .i64 a.e3),(.int .i64 a.e4)]) (List.toArray [(.int .i64 b.e0),(.int .i64 b.e1),(.int .i64 b.e2),(.int .i64 b.e3),(.int .i64 b.e4)]) (decide (a=b)):=by
  refine ⟨by intro c hc;simp at hc;(repeat' (rcases hc with rfl | hc));all_goals (first | rfl | (subst hc;rfl) | simp_all [Qbn]),fun w=>?_⟩
  have u3:=Tryz.underlying3
  have a3:=Tryz.isAgg3
  have z3:=Tryz.sizeOf3
  rw [Op.equalIn]
  simp only [Sem.run_bind,run_underlying Tryz.underlying34,Result.andThen_ok]
  simp only [Std.Legacy.Range.forIn_eq_forIn_range',Std.Legacy.Range.size,Nat.sub_zero,Nat.add_sub_cancel,Nat.div_one,List.range'_succ,List.range'_zero,List.forIn_cons,List.forIn_nil]
  go_simp
  cases a;cases b;simp only [Nx.mk.injEq]
  repeat' split
  all_goals simp_all
theorem QDa:Tryz.prog.eqGuardType Tryz.prog.depth 67=false:=by kernel_rfl
theorem QDj (a b:Na):EqS Tryz.prog 67 (List.toArray [(.int .i64 a.e0),(.int .i64 a.e1)]) (List.toArray [(.int .i64 b.e0),(.int .i64 b.e1)]) (decide (a=b)):=by
  refine ⟨by intro c hc;simp at hc;(try rcases hc with rfl | hc)<;>simp_all [Qbn],fun w=>?_⟩
  have u3:=Tryz.underlying3
  have a3:=Tryz.isAgg3
  have z3:=Tryz.sizeOf3
  rw [Op.equalIn]
  simp only [Sem.run_bind,run_underlying Tryz.underlying67,Result.andThen_ok]
  simp only [Std.Legacy.Range.forIn_eq_forIn_range',Std.Legacy.Range.size,Nat.sub_zero,Nat.add_sub_cancel,Nat.div_one,List.range'_succ,List.range'_zero,List.forIn_cons,List.forIn_nil]
  go_simp
  cases a;cases b;simp only [Na.mk.injEq]
  repeat' split
  all_goals simp_all
theorem QDb:Tryz.prog.eqGuardType Tryz.prog.depth 71=false:=by kernel_rfl
theorem QDk (a b:Nh):EqS Tryz.prog 71 (List.toArray [(.int .i64 a.List),(.int .i64 a.Number)]) (List.toArray [(.int .i64 b.List),(.int .i64 b.Number)]) (decide (a=b)):=by
  refine ⟨fun c hc=>by
    simp at hc
    repeat' (rcases hc with rfl | hc)
    all_goals simp_all [Qbn],fun w=>?_⟩
  have u3:=Tryz.underlying3
  have a3:=Tryz.isAgg3
  have z3:=Tryz.sizeOf3
  have hS:Tryz.prog.underlying 71=some (.struct (Tryz.prog.fieldsOf 71)):=by kernel_rfl
  have hp:Tryz.prog.stoodInHeld 71=false:=by kernel_rfl
  rw [run_equalIn_agg w 9999 71 _ _ hS hp]
  simp only [Program.fieldsOf,Tryz.underlying71]
  go_simp
  cases a;cases b;simp only [Nh.mk.injEq]
  repeat' split
  all_goals simp_all [QBo]
theorem Xm:Tryz.prog.follows .mixedOrders=true:=by kernel_rfl
end Go.Gw
