/- Facts of the types of the program. No condition. -/
import Derived.Test.YtglaeocolbnpdaaGreatGwSt
import Derived.Test.YtglaeocolbnpdaaGreatGwPlan
import Derived.Laws.StructEq
import Derived.Laws.Externs
import Derived.Test.YtglaeocolbnpdaaGreatProg
set_option maxRecDepth 100000
namespace Go.Gw
open Go Go.Proofs
abbrev numgo : String := "runtime.NumGoroutine"
theorem QM : XK Tryz.prog 3 1 := Y4 (by kernel_rfl)
theorem XW : XK Tryz.prog 22 1 := Y4 (by kernel_rfl)
theorem Xj : XK Tryz.prog 23 1 := Y4 (by kernel_rfl)
theorem YZ : XK Tryz.prog 25 3 := Y4 (by kernel_rfl)
theorem Qjc : XK Tryz.prog 27 2 := Y4 (by kernel_rfl)
theorem Qjd : XK Tryz.prog 30 1 := Y4 (by kernel_rfl)
theorem Ye : XK Tryz.prog 42 1 := Y4 (by kernel_rfl)
theorem Qeo : XK Tryz.prog 43 2 := Y4 (by kernel_rfl)
theorem YI : XK Tryz.prog 57 2 := Y4 (by kernel_rfl)
theorem Qog : XK Tryz.prog 66 2 := Y4 (by kernel_rfl)
theorem Qte : XK Tryz.prog 126 1 := Y4 (by kernel_rfl)
theorem QGa : XK Tryz.prog 127 3 := Y4 (by kernel_rfl)
theorem YY : XK Tryz.prog 134 3 := Y4 (by kernel_rfl)
theorem XC : XK Tryz.prog 158 2 := Y4 (by kernel_rfl)
theorem Jb : XK Tryz.prog 174 1 := Y4 (by kernel_rfl)
theorem Yv : XK Tryz.prog 176 3 := Y4 (by kernel_rfl)
theorem QGb : XK Tryz.prog 203 1 := Y4 (by kernel_rfl)
theorem QP : Y6 Tryz.prog 3 := ⟨_, Tryz.underlying3, trivial⟩
theorem X3 : Y6 Tryz.prog 22 := ⟨_, Tryz.underlying22, trivial⟩
theorem Xe : Y6 Tryz.prog 23 := ⟨_, Tryz.underlying23, trivial⟩
theorem Qiu : Y6 Tryz.prog 30 := ⟨_, Tryz.underlying30, trivial⟩
theorem XP : Y6 Tryz.prog 42 := ⟨_, Tryz.underlying42, trivial⟩
theorem QEw : Y6 Tryz.prog 76 := ⟨_, Tryz.underlying76, trivial⟩
theorem QEt : Y6 Tryz.prog 126 := ⟨_, Tryz.underlying126, trivial⟩
theorem Qcm : Y6 Tryz.prog 174 := ⟨_, Tryz.underlying174, trivial⟩
theorem QEu : Y6 Tryz.prog 187 := ⟨_, Tryz.underlying187, trivial⟩
theorem QEv : Y6 Tryz.prog 203 := ⟨_, Tryz.underlying203, trivial⟩
theorem Yt : Aggr Tryz.prog 25 3 := Jy (by trivial) Tryz.underlying25 (by kernel_rfl)
theorem Qex : Aggr Tryz.prog 27 2 := Jy (by trivial) Tryz.underlying27 (by kernel_rfl)
theorem ZZ : Aggr Tryz.prog 43 2 := Jy (by trivial) Tryz.underlying43 (by kernel_rfl)
theorem Yz : Aggr Tryz.prog 57 2 := Jy (by trivial) Tryz.underlying57 (by kernel_rfl)
theorem Qcw : Aggr Tryz.prog 66 2 := Jy (by trivial) Tryz.underlying66 (by kernel_rfl)
theorem Qvf : Aggr Tryz.prog 127 3 := Jy (by trivial) Tryz.underlying127 (by kernel_rfl)
theorem XR : Aggr Tryz.prog 134 3 := Jy (by trivial) Tryz.underlying134 (by kernel_rfl)
theorem Xz : Aggr Tryz.prog 158 2 := Jy (by trivial) Tryz.underlying158 (by kernel_rfl)
theorem Yg : Aggr Tryz.prog 176 3 := Jy (by trivial) Tryz.underlying176 (by kernel_rfl)
theorem Xw : EInfo Tryz.prog 3 1 8 (.int .i64 0) := JV (by kernel_rfl) rfl (by decide)
theorem Jh : EInfo Tryz.prog 23 1 24 (.slice none 0 0) := JV (by kernel_rfl) rfl (by decide)
theorem Qxc : EInfo Tryz.prog 27 2 32 (.agg (List.toArray [(.int .i64 0), (.slice none 0 0)])) := JV (by kernel_rfl) rfl (by decide)
theorem ZA : EInfo Tryz.prog 30 1 8 (.int .i64 0) := JV (by kernel_rfl) rfl (by decide)
theorem Qdl : EInfo Tryz.prog 42 1 24 (.slice none 0 0) := JV (by kernel_rfl) rfl (by decide)
theorem Qqi : EInfo Tryz.prog 176 3 24 (.agg (List.toArray [(.int .u64 0), (.int .u64 0), (.int .u64 0)])) := JV (by kernel_rfl) rfl (by decide)
theorem Qqj : EInfo Tryz.prog 203 1 24 (.slice none 0 0) := JV (by kernel_rfl) rfl (by decide)
theorem Qkb : BI Tryz.prog 25 [(0, 1), (1, 1), (2, 1)] [(.int .i64 0), (.slice none 0 0), (.slice none 0 0)] := JT Tryz.underlying25 (by kernel_rfl) (by kernel_rfl)
theorem Qvp : BI Tryz.prog 27 [(0, 1), (1, 1)] [(.int .i64 0), (.slice none 0 0)] := JT Tryz.underlying27 (by kernel_rfl) (by kernel_rfl)
theorem Jf : BI Tryz.prog 57 [(0, 1), (1, 1)] [(.int .i64 0), (.int .i64 0)] := JT Tryz.underlying57 (by kernel_rfl) (by kernel_rfl)
theorem Qdg : BI Tryz.prog 66 [(0, 1), (1, 1)] [(.int .i64 0), (.int .i64 0)] := JT Tryz.underlying66 (by kernel_rfl) (by kernel_rfl)
theorem Qvm : BI Tryz.prog 105 [(0, 1), (1, 2), (3, 1)] [(.slice none 0 0), (.int .i64 0), (.int .i64 0), (.int .i64 0)] := JT Tryz.underlying105 (by kernel_rfl) (by kernel_rfl)
theorem Qvn : BI Tryz.prog 129 [(0, 3), (3, 1)] [(.float .f32 0), (.float .f32 0), (.float .f32 0), (.int .i64 0)] := JT Tryz.underlying129 (by kernel_rfl) (by kernel_rfl)
theorem Qvo : BI Tryz.prog 134 [(0, 3)] [(.int .i64 0), (.slice none 0 0), (.slice none 0 0)] := JT Tryz.underlying134 (by kernel_rfl) (by kernel_rfl)
theorem Qff : BI Tryz.prog 158 [(0, 1), (1, 1)] [(.int .i64 0), (.slice none 0 0)] := JT Tryz.underlying158 (by kernel_rfl) (by kernel_rfl)
theorem zi3 : ZI Tryz.prog 3 [(.int .i64 0)] := ZX (by kernel_rfl)
theorem Qjj : ZI Tryz.prog 25 [(.int .i64 0), (.slice none 0 0), (.slice none 0 0)] := ZX (by kernel_rfl)
theorem Qud : ZI Tryz.prog 27 [(.int .i64 0), (.slice none 0 0)] := ZX (by kernel_rfl)
theorem QHl : ZI Tryz.prog 30 [(.int .i64 0)] := ZX (by kernel_rfl)
theorem Qor : ZI Tryz.prog 42 [(.slice none 0 0)] := ZX (by kernel_rfl)
theorem QHm : ZI Tryz.prog 43 [(.int .i64 0), (.int .i64 0)] := ZX (by kernel_rfl)
theorem J8 : ZI Tryz.prog 57 [(.int .i64 0), (.int .i64 0)] := ZX (by kernel_rfl)
theorem Que : ZI Tryz.prog 66 [(.int .i64 0), (.int .i64 0)] := ZX (by kernel_rfl)
theorem QHk : ZI Tryz.prog 127 [(.float .f32 0), (.float .f32 0), (.float .f32 0)] := ZX (by kernel_rfl)
theorem ZL : ZI Tryz.prog 134 [(.int .i64 0), (.slice none 0 0), (.slice none 0 0)] := ZX (by kernel_rfl)
theorem Yf : ZI Tryz.prog 158 [(.int .i64 0), (.slice none 0 0)] := ZX (by kernel_rfl)
theorem YH : ZI Tryz.prog 176 [(.int .u64 0), (.int .u64 0), (.int .u64 0)] := ZX (by kernel_rfl)
theorem QBf : (Tryz.f14.name == numgo) = false := by kernel_rfl
theorem QBj : (Tryz.f15.name == numgo) = false := by kernel_rfl
theorem QBm : (Tryz.f16.name == numgo) = false := by kernel_rfl
theorem QBu : (Tryz.f17.name == numgo) = false := by kernel_rfl
theorem Qhq : (Tryz.f18.name == numgo) = false := by kernel_rfl
theorem QBx : (Tryz.f20.name == numgo) = false := by kernel_rfl
theorem Qmr : (Tryz.f24.name == numgo) = false := by kernel_rfl
theorem QBy : (Tryz.f25.name == numgo) = false := by kernel_rfl
theorem Qms : (Tryz.f27.name == numgo) = false := by kernel_rfl
theorem QBz : (Tryz.f28.name == numgo) = false := by kernel_rfl
theorem QCd : (Tryz.f34.name == numgo) = false := by kernel_rfl
theorem QCe : (Tryz.f40.name == numgo) = false := by kernel_rfl
theorem QCf : (Tryz.f47.name == numgo) = false := by kernel_rfl
theorem QCg : (Tryz.f57.name == numgo) = false := by kernel_rfl
theorem Qaq : (Tryz.f59.name == numgo) = false := by kernel_rfl
theorem QCi : (Tryz.f60.name == numgo) = false := by kernel_rfl
theorem QCj : (Tryz.f61.name == numgo) = false := by kernel_rfl
theorem QCk : (Tryz.f64.name == numgo) = false := by kernel_rfl
theorem Qmt : (Tryz.f75.name == numgo) = false := by kernel_rfl
theorem QCn : (Tryz.f76.name == numgo) = false := by kernel_rfl
theorem QCo : (Tryz.f77.name == numgo) = false := by kernel_rfl
theorem QCp : (Tryz.f78.name == numgo) = false := by kernel_rfl
theorem Qsc : (Tryz.f80.name == numgo) = false := by kernel_rfl
theorem Qsd : (Tryz.f81.name == numgo) = false := by kernel_rfl
theorem Qse : (Tryz.f82.name == numgo) = false := by kernel_rfl
theorem QCq : (Tryz.f83.name == numgo) = false := by kernel_rfl
theorem Qsf : (Tryz.f84.name == numgo) = false := by kernel_rfl
theorem QCt : (Tryz.f87.name == numgo) = false := by kernel_rfl
theorem QCu : (Tryz.f88.name == numgo) = false := by kernel_rfl
theorem Qsg : (Tryz.f89.name == numgo) = false := by kernel_rfl
theorem Qsh : (Tryz.f90.name == numgo) = false := by kernel_rfl
theorem Ym : (Tryz.f92.name == numgo) = false := by kernel_rfl
theorem QCv : (Tryz.f93.name == numgo) = false := by kernel_rfl
theorem Qsi : (Tryz.f94.name == numgo) = false := by kernel_rfl
theorem Qsj : (Tryz.f95.name == numgo) = false := by kernel_rfl
theorem Qsk : (Tryz.f96.name == numgo) = false := by kernel_rfl
theorem ZF : (Tryz.f97.name == numgo) = false := by kernel_rfl
theorem Qmu : (Tryz.f98.name == numgo) = false := by kernel_rfl
theorem Qmv : (Tryz.f99.name == numgo) = false := by kernel_rfl
theorem QAq : (Tryz.f103.name == numgo) = false := by kernel_rfl
theorem QAr : (Tryz.f104.name == numgo) = false := by kernel_rfl
theorem QAs : (Tryz.f105.name == numgo) = false := by kernel_rfl
theorem QAt : (Tryz.f106.name == numgo) = false := by kernel_rfl
theorem QAu : (Tryz.f107.name == numgo) = false := by kernel_rfl
theorem Qeg : (Tryz.f108.name == numgo) = false := by kernel_rfl
theorem QAv : (Tryz.f109.name == numgo) = false := by kernel_rfl
theorem QAw : (Tryz.f110.name == numgo) = false := by kernel_rfl
theorem Z6 : (Tryz.f113.name == numgo) = false := by kernel_rfl
theorem QAx : (Tryz.f114.name == numgo) = false := by kernel_rfl
theorem JJ : (Tryz.f115.name == numgo) = false := by kernel_rfl
theorem Qmi : (Tryz.f119.name == numgo) = false := by kernel_rfl
theorem QAy : (Tryz.f122.name == numgo) = false := by kernel_rfl
theorem Qmj : (Tryz.f123.name == numgo) = false := by kernel_rfl
theorem QAz : (Tryz.f128.name == numgo) = false := by kernel_rfl
theorem QBa : (Tryz.f129.name == numgo) = false := by kernel_rfl
theorem QBb : (Tryz.f130.name == numgo) = false := by kernel_rfl
theorem Yc : (Tryz.f131.name == numgo) = false := by kernel_rfl
theorem YG : (Tryz.f132.name == numgo) = false := by kernel_rfl
theorem ZT : (Tryz.f133.name == numgo) = false := by kernel_rfl
theorem Qeh : (Tryz.f134.name == numgo) = false := by kernel_rfl
theorem Qmk : (Tryz.f135.name == numgo) = false := by kernel_rfl
theorem QBc : (Tryz.f136.name == numgo) = false := by kernel_rfl
theorem Qrx : (Tryz.f137.name == numgo) = false := by kernel_rfl
theorem QBd : (Tryz.f138.name == numgo) = false := by kernel_rfl
theorem QBe : (Tryz.f139.name == numgo) = false := by kernel_rfl
theorem QBg : (Tryz.f140.name == numgo) = false := by kernel_rfl
theorem QBh : (Tryz.f141.name == numgo) = false := by kernel_rfl
theorem Qml : (Tryz.f142.name == numgo) = false := by kernel_rfl
theorem Qmm : (Tryz.f143.name == numgo) = false := by kernel_rfl
theorem Qhn : (Tryz.f144.name == numgo) = false := by kernel_rfl
theorem Qho : (Tryz.f145.name == numgo) = false := by kernel_rfl
theorem Qmn : (Tryz.f146.name == numgo) = false := by kernel_rfl
theorem QBi : (Tryz.f147.name == numgo) = false := by kernel_rfl
theorem Qmo : (Tryz.f148.name == numgo) = false := by kernel_rfl
theorem QBk : (Tryz.f150.name == numgo) = false := by kernel_rfl
theorem QBl : (Tryz.f151.name == numgo) = false := by kernel_rfl
theorem JK : (Tryz.f152.name == numgo) = false := by kernel_rfl
theorem Qei : (Tryz.f153.name == numgo) = false := by kernel_rfl
theorem Qej : (Tryz.f154.name == numgo) = false := by kernel_rfl
theorem Qry : (Tryz.f159.name == numgo) = false := by kernel_rfl
theorem QBn : (Tryz.f160.name == numgo) = false := by kernel_rfl
theorem QBo : (Tryz.f161.name == numgo) = false := by kernel_rfl
theorem Qmp : (Tryz.f162.name == numgo) = false := by kernel_rfl
theorem Qrz : (Tryz.f163.name == numgo) = false := by kernel_rfl
theorem QBp : (Tryz.f164.name == numgo) = false := by kernel_rfl
theorem QBq : (Tryz.f165.name == numgo) = false := by kernel_rfl
theorem QBr : (Tryz.f166.name == numgo) = false := by kernel_rfl
theorem QBs : (Tryz.f167.name == numgo) = false := by kernel_rfl
theorem Jm : (Tryz.f168.name == numgo) = false := by kernel_rfl
theorem QBt : (Tryz.f169.name == numgo) = false := by kernel_rfl
theorem QBv : (Tryz.f170.name == numgo) = false := by kernel_rfl
theorem Qsa : (Tryz.f171.name == numgo) = false := by kernel_rfl
theorem Qsb : (Tryz.f172.name == numgo) = false := by kernel_rfl
theorem QBw : (Tryz.f187.name == numgo) = false := by kernel_rfl
theorem Qmq : (Tryz.f188.name == numgo) = false := by kernel_rfl
theorem Qxb : Tryz.prog.eqGuardType Tryz.prog.depth 66 = false := by kernel_rfl
theorem Qxf (a b : Range) (w : World) : (Op.equalIn (9999 + 1) 66 (.agg (List.toArray [(.int .i64 a.Lo), (.int .i64 a.Hi)])) (.agg (List.toArray [(.int .i64 b.Lo), (.int .i64 b.Hi)]))).run Tryz.prog w = .ok (decide (a = b)) w := by
  have u3 := Tryz.underlying3
  have a3 := Tryz.isAgg3
  have z3 := Tryz.sizeOf3
  have hS : Tryz.prog.underlying 66 = some (.struct (Tryz.prog.fieldsOf 66)) := by kernel_rfl
  have hp : Tryz.prog.stoodInHeld 66 = false := by kernel_rfl
  rw [run_equalIn_agg w 9999 66 _ _ hS hp]
  simp only [Program.fieldsOf, Tryz.underlying66]
  go_simp
  cases a; cases b; simp only [Range.mk.injEq]
  repeat' split
  all_goals simp_all
theorem Qxa : Tryz.prog.eqGuardType Tryz.prog.depth 176 = false := by kernel_rfl
theorem Qxe (a b : Arr3_U64) (w : World) : (Op.equalIn (9999 + 1) 176 (.agg (List.toArray [(.int .u64 a.e0), (.int .u64 a.e1), (.int .u64 a.e2)])) (.agg (List.toArray [(.int .u64 b.e0), (.int .u64 b.e1), (.int .u64 b.e2)]))).run Tryz.prog w = .ok (decide (a = b)) w := by
  have u174 := Tryz.underlying174
  have a174 := Tryz.isAgg174
  have z174 := Tryz.sizeOf174
  rw [Op.equalIn]
  simp only [Sem.run_bind, run_underlying Tryz.underlying176, Result.andThen_ok]
  simp only [Std.Legacy.Range.forIn_eq_forIn_range', Std.Legacy.Range.size, Nat.sub_zero, Nat.add_sub_cancel, Nat.div_one, List.range'_succ, List.range'_zero, List.forIn_cons, List.forIn_nil]
  go_simp
  cases a; cases b; simp only [Arr3_U64.mk.injEq]
  repeat' split
  all_goals simp_all
theorem Qko : Tryz.f162.body.isNone = true := by kernel_rfl
theorem Qkq : Extern.findNext Tryz.f162 = none := by kernel_rfl
theorem Qkp : Extern.find Tryz.f162 = some add64Entry := by kernel_rfl
theorem mixed : Tryz.prog.follows .mixedOrders = true := by kernel_rfl
end Go.Gw
