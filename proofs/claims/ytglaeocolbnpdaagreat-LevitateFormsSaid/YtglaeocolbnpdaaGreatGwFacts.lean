/- Facts of the types of the program. No condition. -/
import Derived.Test.YtglaeocolbnpdaaGreatGwSt
import Derived.Test.YtglaeocolbnpdaaGreatGwPlan
import Derived.Laws.StructEq
import Derived.Laws.Externs
import Derived.Test.YtglaeocolbnpdaaGreatProg
set_option maxRecDepth 100000
namespace Go.Gw
open Go Go.Proofs
theorem QJ : XA Tryz.prog 3 1 := YL (by kernel_rfl)
theorem XP : XA Tryz.prog 22 1 := YL (by kernel_rfl)
theorem Xc : XA Tryz.prog 23 1 := YL (by kernel_rfl)
theorem YH : XA Tryz.prog 25 3 := YL (by kernel_rfl)
theorem Qhm : XA Tryz.prog 27 2 := YL (by kernel_rfl)
theorem Qhn : XA Tryz.prog 30 1 := YL (by kernel_rfl)
theorem YM : XA Tryz.prog 42 1 := YL (by kernel_rfl)
theorem Yo : XA Tryz.prog 57 2 := YL (by kernel_rfl)
theorem Qlx : XA Tryz.prog 66 2 := YL (by kernel_rfl)
theorem Qre : XA Tryz.prog 126 1 := YL (by kernel_rfl)
theorem QDb : XA Tryz.prog 127 3 := YL (by kernel_rfl)
theorem YG : XA Tryz.prog 134 3 := YL (by kernel_rfl)
theorem XL : XA Tryz.prog 158 2 := YL (by kernel_rfl)
theorem ZK : XA Tryz.prog 174 1 := YL (by kernel_rfl)
theorem Yj : XA Tryz.prog 176 3 := YL (by kernel_rfl)
theorem QDc : XA Tryz.prog 203 1 := YL (by kernel_rfl)
theorem QP : YP Tryz.prog 3 := ⟨_, Tryz.underlying3, trivial⟩
theorem X0 : YP Tryz.prog 22 := ⟨_, Tryz.underlying22, trivial⟩
theorem Q4 : YP Tryz.prog 23 := ⟨_, Tryz.underlying23, trivial⟩
theorem Qhe : YP Tryz.prog 30 := ⟨_, Tryz.underlying30, trivial⟩
theorem X6 : YP Tryz.prog 42 := ⟨_, Tryz.underlying42, trivial⟩
theorem QBx : YP Tryz.prog 76 := ⟨_, Tryz.underlying76, trivial⟩
theorem QBu : YP Tryz.prog 126 := ⟨_, Tryz.underlying126, trivial⟩
theorem Qbc : YP Tryz.prog 174 := ⟨_, Tryz.underlying174, trivial⟩
theorem QBv : YP Tryz.prog 187 := ⟨_, Tryz.underlying187, trivial⟩
theorem QBw : YP Tryz.prog 203 := ⟨_, Tryz.underlying203, trivial⟩
theorem Yk : Aggr Tryz.prog 25 3 := Z7 (by trivial) Tryz.underlying25 (by kernel_rfl)
theorem Qds : Aggr Tryz.prog 27 2 := Z7 (by trivial) Tryz.underlying27 (by kernel_rfl)
theorem Qia : Aggr Tryz.prog 43 2 := Z7 (by trivial) Tryz.underlying43 (by kernel_rfl)
theorem Yb : Aggr Tryz.prog 57 2 := Z7 (by trivial) Tryz.underlying57 (by kernel_rfl)
theorem Qbm : Aggr Tryz.prog 66 2 := Z7 (by trivial) Tryz.underlying66 (by kernel_rfl)
theorem Qtk : Aggr Tryz.prog 127 3 := Z7 (by trivial) Tryz.underlying127 (by kernel_rfl)
theorem XC : Aggr Tryz.prog 134 3 := Z7 (by trivial) Tryz.underlying134 (by kernel_rfl)
theorem Xz : Aggr Tryz.prog 158 2 := Z7 (by trivial) Tryz.underlying158 (by kernel_rfl)
theorem Ya : Aggr Tryz.prog 176 3 := Z7 (by trivial) Tryz.underlying176 (by kernel_rfl)
theorem Xr : EInfo Tryz.prog 3 1 8 (.int .i64 0) := JG (by kernel_rfl) rfl (by decide)
theorem Jm : EInfo Tryz.prog 23 1 24 (.slice none 0 0) := JG (by kernel_rfl) rfl (by decide)
theorem Qvb : EInfo Tryz.prog 27 2 32 (.agg (List.toArray [(.int .i64 0), (.slice none 0 0)])) := JG (by kernel_rfl) rfl (by decide)
theorem Y9 : EInfo Tryz.prog 30 1 8 (.int .i64 0) := JG (by kernel_rfl) rfl (by decide)
theorem Qcb : EInfo Tryz.prog 42 1 24 (.slice none 0 0) := JG (by kernel_rfl) rfl (by decide)
theorem Qnr : EInfo Tryz.prog 176 3 24 (.agg (List.toArray [(.int .u64 0), (.int .u64 0), (.int .u64 0)])) := JG (by kernel_rfl) rfl (by decide)
theorem Qns : EInfo Tryz.prog 203 1 24 (.slice none 0 0) := JG (by kernel_rfl) rfl (by decide)
theorem Qij : BI Tryz.prog 25 [(0, 1), (1, 1), (2, 1)] [(.int .i64 0), (.slice none 0 0), (.slice none 0 0)] := JE Tryz.underlying25 (by kernel_rfl) (by kernel_rfl)
theorem Qtw : BI Tryz.prog 27 [(0, 1), (1, 1)] [(.int .i64 0), (.slice none 0 0)] := JE Tryz.underlying27 (by kernel_rfl) (by kernel_rfl)
theorem ZP : BI Tryz.prog 57 [(0, 1), (1, 1)] [(.int .i64 0), (.int .i64 0)] := JE Tryz.underlying57 (by kernel_rfl) (by kernel_rfl)
theorem Qbw : BI Tryz.prog 66 [(0, 1), (1, 1)] [(.int .i64 0), (.int .i64 0)] := JE Tryz.underlying66 (by kernel_rfl) (by kernel_rfl)
theorem Qtu : BI Tryz.prog 129 [(0, 3), (3, 1)] [(.float .f32 0), (.float .f32 0), (.float .f32 0), (.int .i64 0)] := JE Tryz.underlying129 (by kernel_rfl) (by kernel_rfl)
theorem Qtv : BI Tryz.prog 134 [(0, 3)] [(.int .i64 0), (.slice none 0 0), (.slice none 0 0)] := JE Tryz.underlying134 (by kernel_rfl) (by kernel_rfl)
theorem Qee : BI Tryz.prog 158 [(0, 1), (1, 1)] [(.int .i64 0), (.slice none 0 0)] := JE Tryz.underlying158 (by kernel_rfl) (by kernel_rfl)
theorem zi3 : ZI Tryz.prog 3 [(.int .i64 0)] := Zt (by kernel_rfl)
theorem Qhw : ZI Tryz.prog 25 [(.int .i64 0), (.slice none 0 0), (.slice none 0 0)] := Zt (by kernel_rfl)
theorem Qsh : ZI Tryz.prog 27 [(.int .i64 0), (.slice none 0 0)] := Zt (by kernel_rfl)
theorem QEl : ZI Tryz.prog 30 [(.int .i64 0)] := Zt (by kernel_rfl)
theorem Qmd : ZI Tryz.prog 42 [(.slice none 0 0)] := Zt (by kernel_rfl)
theorem QEm : ZI Tryz.prog 43 [(.int .i64 0), (.int .i64 0)] := Zt (by kernel_rfl)
theorem Jy : ZI Tryz.prog 57 [(.int .i64 0), (.int .i64 0)] := Zt (by kernel_rfl)
theorem Qsi : ZI Tryz.prog 66 [(.int .i64 0), (.int .i64 0)] := Zt (by kernel_rfl)
theorem QEk : ZI Tryz.prog 127 [(.float .f32 0), (.float .f32 0), (.float .f32 0)] := Zt (by kernel_rfl)
theorem Zi : ZI Tryz.prog 134 [(.int .i64 0), (.slice none 0 0), (.slice none 0 0)] := Zt (by kernel_rfl)
theorem Zs : ZI Tryz.prog 158 [(.int .i64 0), (.slice none 0 0)] := Zt (by kernel_rfl)
theorem Yu : ZI Tryz.prog 176 [(.int .u64 0), (.int .u64 0), (.int .u64 0)] := Zt (by kernel_rfl)
theorem Qzc : (Tryz.f14.name == "runtime.NumGoroutine") = false := by kernel_rfl
theorem Qzg : (Tryz.f15.name == "runtime.NumGoroutine") = false := by kernel_rfl
theorem Qzh : (Tryz.f16.name == "runtime.NumGoroutine") = false := by kernel_rfl
theorem Qzp : (Tryz.f17.name == "runtime.NumGoroutine") = false := by kernel_rfl
theorem Qcy : (Tryz.f18.name == "runtime.NumGoroutine") = false := by kernel_rfl
theorem Qzs : (Tryz.f20.name == "runtime.NumGoroutine") = false := by kernel_rfl
theorem Qps : (Tryz.f24.name == "runtime.NumGoroutine") = false := by kernel_rfl
theorem Qzt : (Tryz.f25.name == "runtime.NumGoroutine") = false := by kernel_rfl
theorem Qcz : (Tryz.f27.name == "runtime.NumGoroutine") = false := by kernel_rfl
theorem Qzu : (Tryz.f28.name == "runtime.NumGoroutine") = false := by kernel_rfl
theorem Qzw : (Tryz.f34.name == "runtime.NumGoroutine") = false := by kernel_rfl
theorem Qzx : (Tryz.f40.name == "runtime.NumGoroutine") = false := by kernel_rfl
theorem Qzy : (Tryz.f47.name == "runtime.NumGoroutine") = false := by kernel_rfl
theorem QAa : (Tryz.f55.name == "runtime.NumGoroutine") = false := by kernel_rfl
theorem Qpt : (Tryz.f57.name == "runtime.NumGoroutine") = false := by kernel_rfl
theorem Qda : (Tryz.f59.name == "runtime.NumGoroutine") = false := by kernel_rfl
theorem Qpu : (Tryz.f60.name == "runtime.NumGoroutine") = false := by kernel_rfl
theorem QAd : (Tryz.f61.name == "runtime.NumGoroutine") = false := by kernel_rfl
theorem Qkx : (Tryz.f75.name == "runtime.NumGoroutine") = false := by kernel_rfl
theorem QAe : (Tryz.f76.name == "runtime.NumGoroutine") = false := by kernel_rfl
theorem QAf : (Tryz.f77.name == "runtime.NumGoroutine") = false := by kernel_rfl
theorem QAg : (Tryz.f78.name == "runtime.NumGoroutine") = false := by kernel_rfl
theorem QAh : (Tryz.f80.name == "runtime.NumGoroutine") = false := by kernel_rfl
theorem Qpv : (Tryz.f81.name == "runtime.NumGoroutine") = false := by kernel_rfl
theorem QAi : (Tryz.f82.name == "runtime.NumGoroutine") = false := by kernel_rfl
theorem QAj : (Tryz.f83.name == "runtime.NumGoroutine") = false := by kernel_rfl
theorem QAk : (Tryz.f84.name == "runtime.NumGoroutine") = false := by kernel_rfl
theorem QAl : (Tryz.f87.name == "runtime.NumGoroutine") = false := by kernel_rfl
theorem QAm : (Tryz.f88.name == "runtime.NumGoroutine") = false := by kernel_rfl
theorem Qpw : (Tryz.f89.name == "runtime.NumGoroutine") = false := by kernel_rfl
theorem Qpx : (Tryz.f90.name == "runtime.NumGoroutine") = false := by kernel_rfl
theorem XU : (Tryz.f92.name == "runtime.NumGoroutine") = false := by kernel_rfl
theorem QAn : (Tryz.f93.name == "runtime.NumGoroutine") = false := by kernel_rfl
theorem Qpy : (Tryz.f94.name == "runtime.NumGoroutine") = false := by kernel_rfl
theorem Qpz : (Tryz.f95.name == "runtime.NumGoroutine") = false := by kernel_rfl
theorem Qqa : (Tryz.f96.name == "runtime.NumGoroutine") = false := by kernel_rfl
theorem Zc : (Tryz.f97.name == "runtime.NumGoroutine") = false := by kernel_rfl
theorem Qky : (Tryz.f98.name == "runtime.NumGoroutine") = false := by kernel_rfl
theorem Qkz : (Tryz.f99.name == "runtime.NumGoroutine") = false := by kernel_rfl
theorem Qyq : (Tryz.f103.name == "runtime.NumGoroutine") = false := by kernel_rfl
theorem Qyr : (Tryz.f104.name == "runtime.NumGoroutine") = false := by kernel_rfl
theorem Qys : (Tryz.f105.name == "runtime.NumGoroutine") = false := by kernel_rfl
theorem Qkp : (Tryz.f106.name == "runtime.NumGoroutine") = false := by kernel_rfl
theorem Qph : (Tryz.f107.name == "runtime.NumGoroutine") = false := by kernel_rfl
theorem Qau : (Tryz.f108.name == "runtime.NumGoroutine") = false := by kernel_rfl
theorem Qpi : (Tryz.f109.name == "runtime.NumGoroutine") = false := by kernel_rfl
theorem Qpj : (Tryz.f110.name == "runtime.NumGoroutine") = false := by kernel_rfl
theorem ZW : (Tryz.f113.name == "runtime.NumGoroutine") = false := by kernel_rfl
theorem Qkq : (Tryz.f119.name == "runtime.NumGoroutine") = false := by kernel_rfl
theorem Qyv : (Tryz.f122.name == "runtime.NumGoroutine") = false := by kernel_rfl
theorem Qpk : (Tryz.f123.name == "runtime.NumGoroutine") = false := by kernel_rfl
theorem Qyw : (Tryz.f128.name == "runtime.NumGoroutine") = false := by kernel_rfl
theorem Qyx : (Tryz.f129.name == "runtime.NumGoroutine") = false := by kernel_rfl
theorem Qyy : (Tryz.f130.name == "runtime.NumGoroutine") = false := by kernel_rfl
theorem Ye : (Tryz.f131.name == "runtime.NumGoroutine") = false := by kernel_rfl
theorem YA : (Tryz.f132.name == "runtime.NumGoroutine") = false := by kernel_rfl
theorem ZD : (Tryz.f133.name == "runtime.NumGoroutine") = false := by kernel_rfl
theorem Qgh : (Tryz.f134.name == "runtime.NumGoroutine") = false := by kernel_rfl
theorem Qkr : (Tryz.f135.name == "runtime.NumGoroutine") = false := by kernel_rfl
theorem Qyz : (Tryz.f136.name == "runtime.NumGoroutine") = false := by kernel_rfl
theorem Qpl : (Tryz.f137.name == "runtime.NumGoroutine") = false := by kernel_rfl
theorem Qza : (Tryz.f138.name == "runtime.NumGoroutine") = false := by kernel_rfl
theorem Qzb : (Tryz.f139.name == "runtime.NumGoroutine") = false := by kernel_rfl
theorem Qzd : (Tryz.f140.name == "runtime.NumGoroutine") = false := by kernel_rfl
theorem Qze : (Tryz.f141.name == "runtime.NumGoroutine") = false := by kernel_rfl
theorem Qks : (Tryz.f142.name == "runtime.NumGoroutine") = false := by kernel_rfl
theorem Qpm : (Tryz.f143.name == "runtime.NumGoroutine") = false := by kernel_rfl
theorem Qpn : (Tryz.f144.name == "runtime.NumGoroutine") = false := by kernel_rfl
theorem Qcw : (Tryz.f145.name == "runtime.NumGoroutine") = false := by kernel_rfl
theorem Qkt : (Tryz.f146.name == "runtime.NumGoroutine") = false := by kernel_rfl
theorem Qzf : (Tryz.f147.name == "runtime.NumGoroutine") = false := by kernel_rfl
theorem Qku : (Tryz.f148.name == "runtime.NumGoroutine") = false := by kernel_rfl
theorem Jt : (Tryz.f152.name == "runtime.NumGoroutine") = false := by kernel_rfl
theorem Qgj : (Tryz.f153.name == "runtime.NumGoroutine") = false := by kernel_rfl
theorem Qcx : (Tryz.f154.name == "runtime.NumGoroutine") = false := by kernel_rfl
theorem Qpo : (Tryz.f159.name == "runtime.NumGoroutine") = false := by kernel_rfl
theorem Qzi : (Tryz.f160.name == "runtime.NumGoroutine") = false := by kernel_rfl
theorem Qzj : (Tryz.f161.name == "runtime.NumGoroutine") = false := by kernel_rfl
theorem Qkv : (Tryz.f162.name == "runtime.NumGoroutine") = false := by kernel_rfl
theorem Qpp : (Tryz.f163.name == "runtime.NumGoroutine") = false := by kernel_rfl
theorem Qzk : (Tryz.f164.name == "runtime.NumGoroutine") = false := by kernel_rfl
theorem Qzl : (Tryz.f165.name == "runtime.NumGoroutine") = false := by kernel_rfl
theorem Qzm : (Tryz.f166.name == "runtime.NumGoroutine") = false := by kernel_rfl
theorem Qzn : (Tryz.f167.name == "runtime.NumGoroutine") = false := by kernel_rfl
theorem ZX : (Tryz.f168.name == "runtime.NumGoroutine") = false := by kernel_rfl
theorem Qzo : (Tryz.f169.name == "runtime.NumGoroutine") = false := by kernel_rfl
theorem Qzq : (Tryz.f170.name == "runtime.NumGoroutine") = false := by kernel_rfl
theorem Qpq : (Tryz.f171.name == "runtime.NumGoroutine") = false := by kernel_rfl
theorem Qpr : (Tryz.f172.name == "runtime.NumGoroutine") = false := by kernel_rfl
theorem Qzr : (Tryz.f187.name == "runtime.NumGoroutine") = false := by kernel_rfl
theorem Qkw : (Tryz.f188.name == "runtime.NumGoroutine") = false := by kernel_rfl
theorem Qva : Tryz.prog.eqGuardType Tryz.prog.depth 66 = false := by kernel_rfl
theorem Qve (a b : Range) (w : World) : (Op.equalIn (9999 + 1) 66 (.agg (List.toArray [(.int .i64 a.Lo), (.int .i64 a.Hi)])) (.agg (List.toArray [(.int .i64 b.Lo), (.int .i64 b.Hi)]))).run Tryz.prog w = .ok (decide (a = b)) w := by
  have u3 := Tryz.underlying3
  have a3 := Tryz.isAgg3
  have z3 := Tryz.sizeOf3
  have hS : Tryz.prog.underlying 66 = some (.struct (Tryz.prog.fieldsOf 66)) := by kernel_rfl
  have hp : Tryz.prog.stoodInHeld 66 = false := by kernel_rfl
  rw [run_equalIn_agg w 9999 66 _ _ hS hp]
  simp only [Program.fieldsOf, Tryz.underlying66]
  go_simp
  cases a; cases b; simp only [Range.mk.injEq]
  repeat' split
  all_goals simp_all
theorem Quz : Tryz.prog.eqGuardType Tryz.prog.depth 176 = false := by kernel_rfl
theorem Qvd (a b : Arr3_U64) (w : World) : (Op.equalIn (9999 + 1) 176 (.agg (List.toArray [(.int .u64 a.e0), (.int .u64 a.e1), (.int .u64 a.e2)])) (.agg (List.toArray [(.int .u64 b.e0), (.int .u64 b.e1), (.int .u64 b.e2)]))).run Tryz.prog w = .ok (decide (a = b)) w := by
  have u174 := Tryz.underlying174
  have a174 := Tryz.isAgg174
  have z174 := Tryz.sizeOf174
  rw [Op.equalIn]
  simp only [Sem.run_bind, run_underlying Tryz.underlying176, Result.andThen_ok]
  simp only [Std.Legacy.Range.forIn_eq_forIn_range', Std.Legacy.Range.size, Nat.sub_zero, Nat.add_sub_cancel, Nat.div_one, List.range'_succ, List.range'_zero, List.forIn_cons, List.forIn_nil]
  go_simp
  cases a; cases b; simp only [Arr3_U64.mk.injEq]
  repeat' split
  all_goals simp_all
theorem Qiw : Tryz.f162.body.isNone = true := by kernel_rfl
theorem Qiy : Extern.findNext Tryz.f162 = none := by kernel_rfl
theorem Qix : Extern.find Tryz.f162 = some add64Entry := by kernel_rfl
theorem mixed : Tryz.prog.follows .mixedOrders = true := by kernel_rfl
end Go.Gw
