/- Facts of the types of the program. No condition. -/
import Derived.Test.YtekkhkapnapelaaGwSt
import Derived.Test.YtekkhkapnapelaaGwPlan
import Derived.Laws.StructEq
import Derived.Laws.Externs
import Derived.Test.YtekkhkapnapelaaProg
set_option linter.unusedVariables false
set_option linter.unusedSimpArgs false
set_option linter.unusedSectionVars false
set_option maxRecDepth 100000
namespace Go.Gw
open Go Go.Proofs
abbrev numgo : String := "runtime.NumGoroutine"
theorem QD : Xs Try.prog 3 1:=Yz (by kernel_rfl)
theorem Ys : Xs Try.prog 24 1:=Yz (by kernel_rfl)
theorem Y2 : Xs Try.prog 25 3:=Yz (by kernel_rfl)
theorem Qnp : Xs Try.prog 27 4:=Yz (by kernel_rfl)
theorem Qfa : Xs Try.prog 29 1:=Yz (by kernel_rfl)
theorem XL : Xs Try.prog 35 1:=Yz (by kernel_rfl)
theorem Z3 : Xs Try.prog 38 1:=Yz (by kernel_rfl)
theorem YM : Xs Try.prog 40 3:=Yz (by kernel_rfl)
theorem Qfb : Xs Try.prog 43 2:=Yz (by kernel_rfl)
theorem Z4 : Xs Try.prog 46 1:=Yz (by kernel_rfl)
theorem Qiz : Xs Try.prog 50 2:=Yz (by kernel_rfl)
theorem Yt : Xs Try.prog 64 3:=Yz (by kernel_rfl)
theorem ZQ : Xs Try.prog 69 2:=Yz (by kernel_rfl)
theorem Zz : Xs Try.prog 95 1:=Yz (by kernel_rfl)
theorem X4 : Xs Try.prog 97 3:=Yz (by kernel_rfl)
theorem Qxi : Xs Try.prog 136 1:=Yz (by kernel_rfl)
theorem QE : YB Try.prog 3:=⟨_,Try.underlying3,trivial⟩
theorem ZO : YB Try.prog 24:=⟨_,Try.underlying24,trivial⟩
theorem Qeu : YB Try.prog 29:=⟨_,Try.underlying29,trivial⟩
theorem Xt : YB Try.prog 35:=⟨_,Try.underlying35,trivial⟩
theorem Z1 : YB Try.prog 38:=⟨_,Try.underlying38,trivial⟩
theorem Yy : YB Try.prog 46:=⟨_,Try.underlying46,trivial⟩
theorem Qwi : YB Try.prog 62:=⟨_,Try.underlying62,trivial⟩
theorem Qan : YB Try.prog 95:=⟨_,Try.underlying95,trivial⟩
theorem Qwg : YB Try.prog 120:=⟨_,Try.underlying120,trivial⟩
theorem Qwh : YB Try.prog 136:=⟨_,Try.underlying136,trivial⟩
theorem Qpd : Aggr Try.prog 25 3:=ZT (by trivial) Try.underlying25 (by kernel_rfl)
theorem Qfl : Aggr Try.prog 27 4:=ZT (by trivial) Try.underlying27 (by kernel_rfl)
theorem Zm : Aggr Try.prog 40 3:=ZT (by trivial) Try.underlying40 (by kernel_rfl)
theorem Qco : Aggr Try.prog 43 2:=ZT (by trivial) Try.underlying43 (by kernel_rfl)
theorem Qfm : Aggr Try.prog 48 2:=ZT (by trivial) Try.underlying48 (by kernel_rfl)
theorem Qax : Aggr Try.prog 50 2:=ZT (by trivial) Try.underlying50 (by kernel_rfl)
theorem Xu : Aggr Try.prog 64 3:=ZT (by trivial) Try.underlying64 (by kernel_rfl)
theorem Jx : Aggr Try.prog 69 2:=ZT (by trivial) Try.underlying69 (by kernel_rfl)
theorem XY : Aggr Try.prog 97 3:=ZT (by trivial) Try.underlying97 (by kernel_rfl)
theorem XO : EInfo Try.prog 3 1 8 (.int .i64 0):=JC (by kernel_rfl) rfl (by decide)
theorem Y8 : EInfo Try.prog 29 1 8 (.int .i64 0):=JC (by kernel_rfl) rfl (by decide)
theorem J4 : EInfo Try.prog 35 1 24 (.slice none 0 0):=JC (by kernel_rfl) rfl (by decide)
theorem Qqp : EInfo Try.prog 43 2 32 (.agg (List.toArray [(.int .i64 0),(.slice none 0 0)])):=JC (by kernel_rfl) rfl (by decide)
theorem Qqq : EInfo Try.prog 46 1 24 (.slice none 0 0):=JC (by kernel_rfl) rfl (by decide)
theorem Qkn : EInfo Try.prog 97 3 24 (.agg (List.toArray [(.int .u64 0),(.int .u64 0),(.int .u64 0)])):=JC (by kernel_rfl) rfl (by decide)
theorem Qkm : EInfo Try.prog 136 1 24 (.slice none 0 0):=JC (by kernel_rfl) rfl (by decide)
theorem Qft : BI Try.prog 27 [(0,3),(3,1)] [(.float .f32 0),(.float .f32 0),(.float .f32 0),(.int .i64 0)]:=J0 Try.underlying27 (by kernel_rfl) (by kernel_rfl)
theorem Qpj : BI Try.prog 40 [(0,1),(1,1),(2,1)] [(.int .i64 0),(.slice none 0 0),(.slice none 0 0)]:=J0 Try.underlying40 (by kernel_rfl) (by kernel_rfl)
theorem Qpk : BI Try.prog 43 [(0,1),(1,1)] [(.int .i64 0),(.slice none 0 0)]:=J0 Try.underlying43 (by kernel_rfl) (by kernel_rfl)
theorem Qba : BI Try.prog 50 [(0,1),(1,1)] [(.int .i64 0),(.int .i64 0)]:=J0 Try.underlying50 (by kernel_rfl) (by kernel_rfl)
theorem Qpl : BI Try.prog 64 [(0,3)] [(.int .i64 0),(.slice none 0 0),(.slice none 0 0)]:=J0 Try.underlying64 (by kernel_rfl) (by kernel_rfl)
theorem JZ : BI Try.prog 69 [(0,1),(1,1)] [(.int .i64 0),(.int .i64 0)]:=J0 Try.underlying69 (by kernel_rfl) (by kernel_rfl)
theorem zi3 : ZI Try.prog 3 [(.int .i64 0)]:=Y4 (by kernel_rfl)
theorem Qyv : ZI Try.prog 22 [(.int .i64 0),(.int .i64 0),(.int .i64 0)]:=Y4 (by kernel_rfl)
theorem Qoh : ZI Try.prog 25 [(.float .f32 0),(.float .f32 0),(.float .f32 0)]:=Y4 (by kernel_rfl)
theorem Qoi : ZI Try.prog 27 [(.float .f32 0),(.float .f32 0),(.float .f32 0),(.int .i64 0)]:=Y4 (by kernel_rfl)
theorem Qyw : ZI Try.prog 29 [(.int .i64 0)]:=Y4 (by kernel_rfl)
theorem Qyx : ZI Try.prog 40 [(.int .i64 0),(.slice none 0 0),(.slice none 0 0)]:=Y4 (by kernel_rfl)
theorem Qoj : ZI Try.prog 43 [(.int .i64 0),(.slice none 0 0)]:=Y4 (by kernel_rfl)
theorem Qjg : ZI Try.prog 46 [(.slice none 0 0)]:=Y4 (by kernel_rfl)
theorem Qyy : ZI Try.prog 48 [(.int .i64 0),(.int .i64 0)]:=Y4 (by kernel_rfl)
theorem Qok : ZI Try.prog 50 [(.int .i64 0),(.int .i64 0)]:=Y4 (by kernel_rfl)
theorem Zj : ZI Try.prog 64 [(.int .i64 0),(.slice none 0 0),(.slice none 0 0)]:=Y4 (by kernel_rfl)
theorem Qcl : ZI Try.prog 69 [(.int .i64 0),(.int .i64 0)]:=Y4 (by kernel_rfl)
theorem Yf : ZI Try.prog 97 [(.int .u64 0),(.int .u64 0),(.int .u64 0)]:=Y4 (by kernel_rfl)
theorem nm4 : (Try.f4.name == numgo) = false:=by kernel_rfl
theorem nm5 : (Try.f5.name == numgo) = false:=by kernel_rfl
theorem nm6 : (Try.f6.name == numgo) = false:=by kernel_rfl
theorem nm7 : (Try.f7.name == numgo) = false:=by kernel_rfl
theorem nm8 : (Try.f8.name == numgo) = false:=by kernel_rfl
theorem nm9 : (Try.f9.name == numgo) = false:=by kernel_rfl
theorem Qtz : (Try.f10.name == numgo) = false:=by kernel_rfl
theorem Qua : (Try.f11.name == numgo) = false:=by kernel_rfl
theorem Qub : (Try.f12.name == numgo) = false:=by kernel_rfl
theorem Quc : (Try.f13.name == numgo) = false:=by kernel_rfl
theorem Qme : (Try.f14.name == numgo) = false:=by kernel_rfl
theorem Qhs : (Try.f15.name == numgo) = false:=by kernel_rfl
theorem Ze : (Try.f16.name == numgo) = false:=by kernel_rfl
theorem XX : (Try.f17.name == numgo) = false:=by kernel_rfl
theorem Qud : (Try.f18.name == numgo) = false:=by kernel_rfl
theorem Que : (Try.f19.name == numgo) = false:=by kernel_rfl
theorem ZM : (Try.f20.name == numgo) = false:=by kernel_rfl
theorem Qht : (Try.f21.name == numgo) = false:=by kernel_rfl
theorem Quf : (Try.f22.name == numgo) = false:=by kernel_rfl
theorem Qug : (Try.f23.name == numgo) = false:=by kernel_rfl
theorem Quh : (Try.f24.name == numgo) = false:=by kernel_rfl
theorem Qmf : (Try.f25.name == numgo) = false:=by kernel_rfl
theorem Qmg : (Try.f26.name == numgo) = false:=by kernel_rfl
theorem Qui : (Try.f27.name == numgo) = false:=by kernel_rfl
theorem Quj : (Try.f28.name == numgo) = false:=by kernel_rfl
theorem Quk : (Try.f29.name == numgo) = false:=by kernel_rfl
theorem Qul : (Try.f30.name == numgo) = false:=by kernel_rfl
theorem Qum : (Try.f31.name == numgo) = false:=by kernel_rfl
theorem Qun : (Try.f32.name == numgo) = false:=by kernel_rfl
theorem Qmh : (Try.f33.name == numgo) = false:=by kernel_rfl
theorem Qmi : (Try.f34.name == numgo) = false:=by kernel_rfl
theorem Qmj : (Try.f35.name == numgo) = false:=by kernel_rfl
theorem Qhu : (Try.f36.name == numgo) = false:=by kernel_rfl
theorem Qhv : (Try.f37.name == numgo) = false:=by kernel_rfl
theorem Quo : (Try.f40.name == numgo) = false:=by kernel_rfl
theorem Qup : (Try.f41.name == numgo) = false:=by kernel_rfl
theorem Qhw : (Try.f42.name == numgo) = false:=by kernel_rfl
theorem Quq : (Try.f43.name == numgo) = false:=by kernel_rfl
theorem Qur : (Try.f44.name == numgo) = false:=by kernel_rfl
theorem Qus : (Try.f45.name == numgo) = false:=by kernel_rfl
theorem Qut : (Try.f46.name == numgo) = false:=by kernel_rfl
theorem Quu : (Try.f47.name == numgo) = false:=by kernel_rfl
theorem Quv : (Try.f48.name == numgo) = false:=by kernel_rfl
theorem X1 : (Try.f49.name == numgo) = false:=by kernel_rfl
theorem Yj : (Try.f50.name == numgo) = false:=by kernel_rfl
theorem Zv : (Try.f51.name == numgo) = false:=by kernel_rfl
theorem Qem : (Try.f52.name == numgo) = false:=by kernel_rfl
theorem Qmk : (Try.f64.name == numgo) = false:=by kernel_rfl
theorem Quw : (Try.f65.name == numgo) = false:=by kernel_rfl
theorem Qux : (Try.f66.name == numgo) = false:=by kernel_rfl
theorem Qby : (Try.f67.name == numgo) = false:=by kernel_rfl
theorem Quy : (Try.f68.name == numgo) = false:=by kernel_rfl
theorem Qhx : (Try.f69.name == numgo) = false:=by kernel_rfl
theorem Quz : (Try.f70.name == numgo) = false:=by kernel_rfl
theorem Qva : (Try.f71.name == numgo) = false:=by kernel_rfl
theorem Qml : (Try.f72.name == numgo) = false:=by kernel_rfl
theorem Qmm : (Try.f73.name == numgo) = false:=by kernel_rfl
theorem Qmn : (Try.f74.name == numgo) = false:=by kernel_rfl
theorem Qmo : (Try.f75.name == numgo) = false:=by kernel_rfl
theorem Qhy : (Try.f76.name == numgo) = false:=by kernel_rfl
theorem Qvb : (Try.f77.name == numgo) = false:=by kernel_rfl
theorem Qvc : (Try.f78.name == numgo) = false:=by kernel_rfl
theorem Qhz : (Try.f79.name == numgo) = false:=by kernel_rfl
theorem Qmp : (Try.f80.name == numgo) = false:=by kernel_rfl
theorem Qia : (Try.f87.name == numgo) = false:=by kernel_rfl
theorem Qvd : (Try.f88.name == numgo) = false:=by kernel_rfl
theorem Qen : (Try.f89.name == numgo) = false:=by kernel_rfl
theorem Qve : (Try.f90.name == numgo) = false:=by kernel_rfl
theorem Qvf : (Try.f91.name == numgo) = false:=by kernel_rfl
theorem Qib : (Try.f92.name == numgo) = false:=by kernel_rfl
theorem Qvg : (Try.f93.name == numgo) = false:=by kernel_rfl
theorem Qvh : (Try.f94.name == numgo) = false:=by kernel_rfl
theorem ZN : (Try.f95.name == numgo) = false:=by kernel_rfl
theorem Qvi : (Try.f96.name == numgo) = false:=by kernel_rfl
theorem Qvj : (Try.f99.name == numgo) = false:=by kernel_rfl
theorem Qqn : Try.prog.eqGuardType Try.prog.depth 50 = false:=by kernel_rfl
theorem Qqs (a b : Range) (w : World) : (Op.equalIn (9999 + 1) 50 (.agg (List.toArray [(.int .i64 a.Lo),(.int .i64 a.Hi)])) (.agg (List.toArray [(.int .i64 b.Lo),(.int .i64 b.Hi)]))).run Try.prog w = .ok (decide (a = b)) w:=by
  have u3:=Try.underlying3
  have a3:=Try.isAgg3
  have z3:=Try.sizeOf3
  have hS : Try.prog.underlying 50 = some (.struct (Try.prog.fieldsOf 50)):=by kernel_rfl
  have hp : Try.prog.stoodInHeld 50 = false:=by kernel_rfl
  rw [run_equalIn_agg w 9999 50 _ _ hS hp]
  simp only [Program.fieldsOf,Try.underlying50]
  go_simp
  cases a; cases b; simp only [Range.mk.injEq]
  repeat' split
  all_goals simp_all
theorem Qqo : Try.prog.eqGuardType Try.prog.depth 97 = false:=by kernel_rfl
theorem Qqt (a b : Arr3_U64) (w : World) : (Op.equalIn (9999 + 1) 97 (.agg (List.toArray [(.int .u64 a.e0),(.int .u64 a.e1),(.int .u64 a.e2)])) (.agg (List.toArray [(.int .u64 b.e0),(.int .u64 b.e1),(.int .u64 b.e2)]))).run Try.prog w = .ok (decide (a = b)) w:=by
  have u95:=Try.underlying95
  have a95:=Try.isAgg95
  have z95:=Try.sizeOf95
  rw [Op.equalIn]
  simp only [Sem.run_bind,run_underlying Try.underlying97,Result.andThen_ok]
  simp only [Std.Legacy.Range.forIn_eq_forIn_range',Std.Legacy.Range.size,Nat.sub_zero,Nat.add_sub_cancel,Nat.div_one,List.range'_succ,List.range'_zero,List.forIn_cons,List.forIn_nil]
  go_simp
  cases a; cases b; simp only [Arr3_U64.mk.injEq]
  repeat' split
  all_goals simp_all
theorem Qfz : Try.f79.body.isNone = true:=by kernel_rfl
theorem Qgg : Extern.findNext Try.f79 = none:=by kernel_rfl
theorem Qga : Extern.find Try.f79 = some add64Entry:=by kernel_rfl
theorem mixed : Try.prog.follows .mixedOrders = true:=by kernel_rfl
end Go.Gw
