/- Facts of the types of the program. No condition. -/
import Derived.Test.YtglaeocolbnpdaaGreatGwSt
import Derived.Test.YtglaeocolbnpdaaGreatGwPlan
import Derived.Laws.StructEq
import Derived.Laws.Externs
import Derived.Test.YtglaeocolbnpdaaGreatProg
set_option maxRecDepth 100000
namespace Go.Gw
open Go Go.Proofs
theorem QI : XF Tryz.prog 3 1 := Y2 (by kernel_rfl)
theorem XP : XF Tryz.prog 22 1 := Y2 (by kernel_rfl)
theorem Xd : XF Tryz.prog 23 1 := Y2 (by kernel_rfl)
theorem YO : XF Tryz.prog 25 3 := Y2 (by kernel_rfl)
theorem Qii : XF Tryz.prog 27 2 := Y2 (by kernel_rfl)
theorem Qij : XF Tryz.prog 30 1 := Y2 (by kernel_rfl)
theorem YV : XF Tryz.prog 42 1 := Y2 (by kernel_rfl)
theorem Yt : XF Tryz.prog 57 2 := Y2 (by kernel_rfl)
theorem Qmr : XF Tryz.prog 66 2 := Y2 (by kernel_rfl)
theorem Qse : XF Tryz.prog 126 1 := Y2 (by kernel_rfl)
theorem QEr : XF Tryz.prog 127 3 := Y2 (by kernel_rfl)
theorem YN : XF Tryz.prog 134 3 := Y2 (by kernel_rfl)
theorem XA : XF Tryz.prog 158 2 := Y2 (by kernel_rfl)
theorem ZY : XF Tryz.prog 174 1 := Y2 (by kernel_rfl)
theorem Yr : XF Tryz.prog 176 3 := Y2 (by kernel_rfl)
theorem QEs : XF Tryz.prog 203 1 := Y2 (by kernel_rfl)
theorem QM : YX Tryz.prog 3 := ⟨_, Tryz.underlying3, trivial⟩
theorem XT : YX Tryz.prog 22 := ⟨_, Tryz.underlying22, trivial⟩
theorem Q6 : YX Tryz.prog 23 := ⟨_, Tryz.underlying23, trivial⟩
theorem Qhz : YX Tryz.prog 30 := ⟨_, Tryz.underlying30, trivial⟩
theorem X1 : YX Tryz.prog 42 := ⟨_, Tryz.underlying42, trivial⟩
theorem QDo : YX Tryz.prog 76 := ⟨_, Tryz.underlying76, trivial⟩
theorem QDl : YX Tryz.prog 126 := ⟨_, Tryz.underlying126, trivial⟩
theorem Qbs : YX Tryz.prog 174 := ⟨_, Tryz.underlying174, trivial⟩
theorem QDm : YX Tryz.prog 187 := ⟨_, Tryz.underlying187, trivial⟩
theorem QDn : YX Tryz.prog 203 := ⟨_, Tryz.underlying203, trivial⟩
theorem XW : Aggr Tryz.prog 25 3 := Jl (by trivial) Tryz.underlying25 (by kernel_rfl)
theorem Qee : Aggr Tryz.prog 27 2 := Jl (by trivial) Tryz.underlying27 (by kernel_rfl)
theorem Zg : Aggr Tryz.prog 43 2 := Jl (by trivial) Tryz.underlying43 (by kernel_rfl)
theorem Yd : Aggr Tryz.prog 57 2 := Jl (by trivial) Tryz.underlying57 (by kernel_rfl)
theorem Qcd : Aggr Tryz.prog 66 2 := Jl (by trivial) Tryz.underlying66 (by kernel_rfl)
theorem Qui : Aggr Tryz.prog 127 3 := Jl (by trivial) Tryz.underlying127 (by kernel_rfl)
theorem XL : Aggr Tryz.prog 134 3 := Jl (by trivial) Tryz.underlying134 (by kernel_rfl)
theorem Xt : Aggr Tryz.prog 158 2 := Jl (by trivial) Tryz.underlying158 (by kernel_rfl)
theorem Yc : Aggr Tryz.prog 176 3 := Jl (by trivial) Tryz.underlying176 (by kernel_rfl)
theorem Xr : EInfo Tryz.prog 3 1 8 (.int .i64 0) := JX (by kernel_rfl) rfl (by decide)
theorem Z4 : EInfo Tryz.prog 23 1 24 (.slice none 0 0) := JX (by kernel_rfl) rfl (by decide)
theorem Qwa : EInfo Tryz.prog 27 2 32 (.agg (List.toArray [(.int .i64 0), (.slice none 0 0)])) := JX (by kernel_rfl) rfl (by decide)
theorem ZA : EInfo Tryz.prog 30 1 8 (.int .i64 0) := JX (by kernel_rfl) rfl (by decide)
theorem Qcq : EInfo Tryz.prog 42 1 24 (.slice none 0 0) := JX (by kernel_rfl) rfl (by decide)
theorem Qoo : EInfo Tryz.prog 176 3 24 (.agg (List.toArray [(.int .u64 0), (.int .u64 0), (.int .u64 0)])) := JX (by kernel_rfl) rfl (by decide)
theorem Qop : EInfo Tryz.prog 203 1 24 (.slice none 0 0) := JX (by kernel_rfl) rfl (by decide)
theorem Qjd : BI Tryz.prog 25 [(0, 1), (1, 1), (2, 1)] [(.int .i64 0), (.slice none 0 0), (.slice none 0 0)] := JV Tryz.underlying25 (by kernel_rfl) (by kernel_rfl)
theorem Quw : BI Tryz.prog 27 [(0, 1), (1, 1)] [(.int .i64 0), (.slice none 0 0)] := JV Tryz.underlying27 (by kernel_rfl) (by kernel_rfl)
theorem Z3 : BI Tryz.prog 57 [(0, 1), (1, 1)] [(.int .i64 0), (.int .i64 0)] := JV Tryz.underlying57 (by kernel_rfl) (by kernel_rfl)
theorem Qcm : BI Tryz.prog 66 [(0, 1), (1, 1)] [(.int .i64 0), (.int .i64 0)] := JV Tryz.underlying66 (by kernel_rfl) (by kernel_rfl)
theorem Quu : BI Tryz.prog 129 [(0, 3), (3, 1)] [(.float .f32 0), (.float .f32 0), (.float .f32 0), (.int .i64 0)] := JV Tryz.underlying129 (by kernel_rfl) (by kernel_rfl)
theorem Quv : BI Tryz.prog 134 [(0, 3)] [(.int .i64 0), (.slice none 0 0), (.slice none 0 0)] := JV Tryz.underlying134 (by kernel_rfl) (by kernel_rfl)
theorem Qeo : BI Tryz.prog 158 [(0, 1), (1, 1)] [(.int .i64 0), (.slice none 0 0)] := JV Tryz.underlying158 (by kernel_rfl) (by kernel_rfl)
theorem zi3 : ZI Tryz.prog 3 [(.int .i64 0)] := ZJ (by kernel_rfl)
theorem Qio : ZI Tryz.prog 25 [(.int .i64 0), (.slice none 0 0), (.slice none 0 0)] := ZJ (by kernel_rfl)
theorem Qti : ZI Tryz.prog 27 [(.int .i64 0), (.slice none 0 0)] := ZJ (by kernel_rfl)
theorem QGb : ZI Tryz.prog 30 [(.int .i64 0)] := ZJ (by kernel_rfl)
theorem Qmz : ZI Tryz.prog 42 [(.slice none 0 0)] := ZJ (by kernel_rfl)
theorem QGc : ZI Tryz.prog 43 [(.int .i64 0), (.int .i64 0)] := ZJ (by kernel_rfl)
theorem JR : ZI Tryz.prog 57 [(.int .i64 0), (.int .i64 0)] := ZJ (by kernel_rfl)
theorem Qtj : ZI Tryz.prog 66 [(.int .i64 0), (.int .i64 0)] := ZJ (by kernel_rfl)
theorem QGa : ZI Tryz.prog 127 [(.float .f32 0), (.float .f32 0), (.float .f32 0)] := ZJ (by kernel_rfl)
theorem Zv : ZI Tryz.prog 134 [(.int .i64 0), (.slice none 0 0), (.slice none 0 0)] := ZJ (by kernel_rfl)
theorem Yu : ZI Tryz.prog 158 [(.int .i64 0), (.slice none 0 0)] := ZJ (by kernel_rfl)
theorem YB : ZI Tryz.prog 176 [(.int .u64 0), (.int .u64 0), (.int .u64 0)] := ZJ (by kernel_rfl)
theorem QAh : (Tryz.f14.name == "runtime.NumGoroutine") = false := by kernel_rfl
theorem QAl : (Tryz.f15.name == "runtime.NumGoroutine") = false := by kernel_rfl
theorem QAm : (Tryz.f16.name == "runtime.NumGoroutine") = false := by kernel_rfl
theorem Qqj : (Tryz.f17.name == "runtime.NumGoroutine") = false := by kernel_rfl
theorem Qgw : (Tryz.f18.name == "runtime.NumGoroutine") = false := by kernel_rfl
theorem QAw : (Tryz.f20.name == "runtime.NumGoroutine") = false := by kernel_rfl
theorem Qqm : (Tryz.f24.name == "runtime.NumGoroutine") = false := by kernel_rfl
theorem QAx : (Tryz.f25.name == "runtime.NumGoroutine") = false := by kernel_rfl
theorem Qgx : (Tryz.f27.name == "runtime.NumGoroutine") = false := by kernel_rfl
theorem Qqn : (Tryz.f28.name == "runtime.NumGoroutine") = false := by kernel_rfl
theorem QBc : (Tryz.f34.name == "runtime.NumGoroutine") = false := by kernel_rfl
theorem QBd : (Tryz.f40.name == "runtime.NumGoroutine") = false := by kernel_rfl
theorem QBe : (Tryz.f47.name == "runtime.NumGoroutine") = false := by kernel_rfl
theorem QBf : (Tryz.f57.name == "runtime.NumGoroutine") = false := by kernel_rfl
theorem Qbk : (Tryz.f59.name == "runtime.NumGoroutine") = false := by kernel_rfl
theorem QBh : (Tryz.f60.name == "runtime.NumGoroutine") = false := by kernel_rfl
theorem QBi : (Tryz.f61.name == "runtime.NumGoroutine") = false := by kernel_rfl
theorem Qlo : (Tryz.f75.name == "runtime.NumGoroutine") = false := by kernel_rfl
theorem QBj : (Tryz.f76.name == "runtime.NumGoroutine") = false := by kernel_rfl
theorem QBk : (Tryz.f77.name == "runtime.NumGoroutine") = false := by kernel_rfl
theorem QBl : (Tryz.f78.name == "runtime.NumGoroutine") = false := by kernel_rfl
theorem Qqq : (Tryz.f80.name == "runtime.NumGoroutine") = false := by kernel_rfl
theorem QBm : (Tryz.f81.name == "runtime.NumGoroutine") = false := by kernel_rfl
theorem QBn : (Tryz.f82.name == "runtime.NumGoroutine") = false := by kernel_rfl
theorem QBo : (Tryz.f83.name == "runtime.NumGoroutine") = false := by kernel_rfl
theorem QBp : (Tryz.f84.name == "runtime.NumGoroutine") = false := by kernel_rfl
theorem QBs : (Tryz.f87.name == "runtime.NumGoroutine") = false := by kernel_rfl
theorem QBt : (Tryz.f88.name == "runtime.NumGoroutine") = false := by kernel_rfl
theorem Qqr : (Tryz.f89.name == "runtime.NumGoroutine") = false := by kernel_rfl
theorem Qqs : (Tryz.f90.name == "runtime.NumGoroutine") = false := by kernel_rfl
theorem X9 : (Tryz.f92.name == "runtime.NumGoroutine") = false := by kernel_rfl
theorem QBu : (Tryz.f93.name == "runtime.NumGoroutine") = false := by kernel_rfl
theorem Qqt : (Tryz.f94.name == "runtime.NumGoroutine") = false := by kernel_rfl
theorem Qqu : (Tryz.f95.name == "runtime.NumGoroutine") = false := by kernel_rfl
theorem Qqv : (Tryz.f96.name == "runtime.NumGoroutine") = false := by kernel_rfl
theorem ZF : (Tryz.f97.name == "runtime.NumGoroutine") = false := by kernel_rfl
theorem Qlp : (Tryz.f98.name == "runtime.NumGoroutine") = false := by kernel_rfl
theorem Qlq : (Tryz.f99.name == "runtime.NumGoroutine") = false := by kernel_rfl
theorem Qzs : (Tryz.f103.name == "runtime.NumGoroutine") = false := by kernel_rfl
theorem Qzt : (Tryz.f104.name == "runtime.NumGoroutine") = false := by kernel_rfl
theorem Qzu : (Tryz.f105.name == "runtime.NumGoroutine") = false := by kernel_rfl
theorem Qzv : (Tryz.f106.name == "runtime.NumGoroutine") = false := by kernel_rfl
theorem Qzw : (Tryz.f107.name == "runtime.NumGoroutine") = false := by kernel_rfl
theorem Qdj : (Tryz.f108.name == "runtime.NumGoroutine") = false := by kernel_rfl
theorem Qzx : (Tryz.f109.name == "runtime.NumGoroutine") = false := by kernel_rfl
theorem Qzy : (Tryz.f110.name == "runtime.NumGoroutine") = false := by kernel_rfl
theorem Z9 : (Tryz.f113.name == "runtime.NumGoroutine") = false := by kernel_rfl
theorem Js : (Tryz.f115.name == "runtime.NumGoroutine") = false := by kernel_rfl
theorem Qlh : (Tryz.f119.name == "runtime.NumGoroutine") = false := by kernel_rfl
theorem QAa : (Tryz.f122.name == "runtime.NumGoroutine") = false := by kernel_rfl
theorem Qqd : (Tryz.f123.name == "runtime.NumGoroutine") = false := by kernel_rfl
theorem QAb : (Tryz.f128.name == "runtime.NumGoroutine") = false := by kernel_rfl
theorem QAc : (Tryz.f129.name == "runtime.NumGoroutine") = false := by kernel_rfl
theorem QAd : (Tryz.f130.name == "runtime.NumGoroutine") = false := by kernel_rfl
theorem Yj : (Tryz.f131.name == "runtime.NumGoroutine") = false := by kernel_rfl
theorem YG : (Tryz.f132.name == "runtime.NumGoroutine") = false := by kernel_rfl
theorem ZS : (Tryz.f133.name == "runtime.NumGoroutine") = false := by kernel_rfl
theorem Qgt : (Tryz.f134.name == "runtime.NumGoroutine") = false := by kernel_rfl
theorem Qli : (Tryz.f135.name == "runtime.NumGoroutine") = false := by kernel_rfl
theorem QAe : (Tryz.f136.name == "runtime.NumGoroutine") = false := by kernel_rfl
theorem Qqe : (Tryz.f137.name == "runtime.NumGoroutine") = false := by kernel_rfl
theorem QAf : (Tryz.f138.name == "runtime.NumGoroutine") = false := by kernel_rfl
theorem QAg : (Tryz.f139.name == "runtime.NumGoroutine") = false := by kernel_rfl
theorem QAi : (Tryz.f140.name == "runtime.NumGoroutine") = false := by kernel_rfl
theorem QAj : (Tryz.f141.name == "runtime.NumGoroutine") = false := by kernel_rfl
theorem Qlj : (Tryz.f142.name == "runtime.NumGoroutine") = false := by kernel_rfl
theorem Qqf : (Tryz.f143.name == "runtime.NumGoroutine") = false := by kernel_rfl
theorem Qqg : (Tryz.f144.name == "runtime.NumGoroutine") = false := by kernel_rfl
theorem Qgu : (Tryz.f145.name == "runtime.NumGoroutine") = false := by kernel_rfl
theorem Qlk : (Tryz.f146.name == "runtime.NumGoroutine") = false := by kernel_rfl
theorem QAk : (Tryz.f147.name == "runtime.NumGoroutine") = false := by kernel_rfl
theorem Qll : (Tryz.f148.name == "runtime.NumGoroutine") = false := by kernel_rfl
theorem Jt : (Tryz.f152.name == "runtime.NumGoroutine") = false := by kernel_rfl
theorem Qdk : (Tryz.f153.name == "runtime.NumGoroutine") = false := by kernel_rfl
theorem Qdl : (Tryz.f154.name == "runtime.NumGoroutine") = false := by kernel_rfl
theorem Qqh : (Tryz.f159.name == "runtime.NumGoroutine") = false := by kernel_rfl
theorem QAn : (Tryz.f160.name == "runtime.NumGoroutine") = false := by kernel_rfl
theorem QAo : (Tryz.f161.name == "runtime.NumGoroutine") = false := by kernel_rfl
theorem Qlm : (Tryz.f162.name == "runtime.NumGoroutine") = false := by kernel_rfl
theorem Qqi : (Tryz.f163.name == "runtime.NumGoroutine") = false := by kernel_rfl
theorem QAp : (Tryz.f164.name == "runtime.NumGoroutine") = false := by kernel_rfl
theorem QAq : (Tryz.f165.name == "runtime.NumGoroutine") = false := by kernel_rfl
theorem QAr : (Tryz.f166.name == "runtime.NumGoroutine") = false := by kernel_rfl
theorem QAs : (Tryz.f167.name == "runtime.NumGoroutine") = false := by kernel_rfl
theorem Ja : (Tryz.f168.name == "runtime.NumGoroutine") = false := by kernel_rfl
theorem QAt : (Tryz.f169.name == "runtime.NumGoroutine") = false := by kernel_rfl
theorem QAu : (Tryz.f170.name == "runtime.NumGoroutine") = false := by kernel_rfl
theorem Qqk : (Tryz.f171.name == "runtime.NumGoroutine") = false := by kernel_rfl
theorem Qql : (Tryz.f172.name == "runtime.NumGoroutine") = false := by kernel_rfl
theorem QAv : (Tryz.f187.name == "runtime.NumGoroutine") = false := by kernel_rfl
theorem Qln : (Tryz.f188.name == "runtime.NumGoroutine") = false := by kernel_rfl
theorem Qvz : Tryz.prog.eqGuardType Tryz.prog.depth 66 = false := by kernel_rfl
theorem Qwd (a b : Range) (w : World) : (Op.equalIn (9999 + 1) 66 (.agg (List.toArray [(.int .i64 a.Lo), (.int .i64 a.Hi)])) (.agg (List.toArray [(.int .i64 b.Lo), (.int .i64 b.Hi)]))).run Tryz.prog w = .ok (decide (a = b)) w := by
  have u3 := Tryz.underlying3
  have a3 := Tryz.isAgg3
  have z3 := Tryz.sizeOf3
  have hS : Tryz.prog.underlying 66 = some (.struct (Tryz.prog.fieldsOf 66)) := by kernel_rfl
  have hp : Tryz.prog.stoodInHeld 66 = false := by kernel_rfl
  rw [run_equalIn_agg w 9999 66 _ _ hS hp]
  simp only [Program.fieldsOf, Tryz.underlying66]
  go_simp
  cases a; cases b; simp only [Range.mk.injEq]
  repeat' split
  all_goals simp_all
theorem Qvy : Tryz.prog.eqGuardType Tryz.prog.depth 176 = false := by kernel_rfl
theorem Qwc (a b : Arr3_U64) (w : World) : (Op.equalIn (9999 + 1) 176 (.agg (List.toArray [(.int .u64 a.e0), (.int .u64 a.e1), (.int .u64 a.e2)])) (.agg (List.toArray [(.int .u64 b.e0), (.int .u64 b.e1), (.int .u64 b.e2)]))).run Tryz.prog w = .ok (decide (a = b)) w := by
  have u174 := Tryz.underlying174
  have a174 := Tryz.isAgg174
  have z174 := Tryz.sizeOf174
  rw [Op.equalIn]
  simp only [Sem.run_bind, run_underlying Tryz.underlying176, Result.andThen_ok]
  simp only [Std.Legacy.Range.forIn_eq_forIn_range', Std.Legacy.Range.size, Nat.sub_zero, Nat.add_sub_cancel, Nat.div_one, List.range'_succ, List.range'_zero, List.forIn_cons, List.forIn_nil]
  go_simp
  cases a; cases b; simp only [Arr3_U64.mk.injEq]
  repeat' split
  all_goals simp_all
theorem Qjp : Tryz.f162.body.isNone = true := by kernel_rfl
theorem Qjr : Extern.findNext Tryz.f162 = none := by kernel_rfl
theorem Qjq : Extern.find Tryz.f162 = some add64Entry := by kernel_rfl
theorem mixed : Tryz.prog.follows .mixedOrders = true := by kernel_rfl
end Go.Gw
