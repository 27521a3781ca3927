/- Goroutines: more operations that are tame; runs that list nothing. No condition. -/
import Derived.Test.YtpgpimedmpeliaaGreatDoorGwCj4
import Derived.Conc.MuLone
import Derived.Laws.Strings
import Derived.Laws.StructEq
import Derived.Laws.Build
import Derived.Laws.Entries
import Derived.Laws.NewBlocks
set_option linter.unusedVariables false
set_option linter.unusedSimpArgs false
set_option linter.unusedSectionVars false
set_option linter.unusedVariables false
namespace Go.Gw
open Go Go.Conc
section
variable {P:Program} {w:World} {T:TypeId}
def X1 (P:Program) (T:TypeId):Prop:=∃ dsc,P.underlying T=some dsc∧(match dsc with | .struct _ | .array _ _=>False | _=>True)
def Aggr (P:Program) (T:TypeId) (k:Nat):Prop:=∃ dsc i,P.underlying T=some dsc∧(match dsc with | .struct _ | .array _ _=>True | _=>False)∧P.info? T=some i∧i.size=k
def Q3 (P:Program) (T:TypeId) (k:Nat):Prop:=∃ i,P.info? T=some i∧i.size=k

theorem X4 {T k:Nat} (h:Q3 P T k):(sizeOf T).run P w=.ok k w:=by
  obtain ⟨i,hi,hk⟩:=h
  simp [sizeOf,typeInfo,hi,hk]

theorem Qrd (h:X1 P T):(isAgg T).run P w=.ok false w:=by
  obtain ⟨dsc,hd,hm⟩:=h
  simp only [isAgg,Sem.run_bind,run_underlying hd,Result.andThen]
  cases dsc<;>simp at hm<;>rfl
theorem Qkl {k:Nat} (h:Aggr P T k):(isAgg T).run P w=.ok true w:=by
  obtain ⟨dsc,i,hd,hm,_⟩:=h
  simp only [isAgg,Sem.run_bind,run_underlying hd,Result.andThen]
  cases dsc<;>simp at hm<;>rfl
theorem Aggr.size {k:Nat} (h:Aggr P T k):Q3 P T k:=by obtain ⟨_,i,_,_,hi,hk⟩:=h;exact ⟨i,hi,hk⟩

theorem QX {α β:Type} {m:Sem α} {f:α→Sem β} {a:α} {w w':World} {es es':Array Event} (h:m.runT P w es=(.ok a w',es')):(m >>= f).runT P w es=(f a).runT P w' es':=by
  rw [show (m >>= f)=m.bind f from rfl,Go.Sem.runT_bind',h]
theorem Yn {d:TypeDesc} {es:Array Event} (h:P.underlying T=some d):(underlying T).runT P w es=(.ok d w,es):=by
  simp [run_underlying h]
theorem Qdh {T k:Nat} {es:Array Event} (h:Q3 P T k):(sizeOf T).runT P w es=(.ok k w,es):=by
  obtain ⟨i,hi,hk⟩:=h
  simp [sizeOf,typeInfo,hi,hk]
theorem Qgk {f : FuncId} {fn : Func} {c : Code} {args : Array Value} {es : Array Event} (hf : P.funcs[f]? = some fn) (hname : (fn.name == "runtime.NumGoroutine") = false) (hb : fn.body = some c) : (callFunc f args).runT P w es = (.ok (.enter f args) w, es) := by
  have h1 : fn.name ≠ "runtime.NumGoroutine" := by simpa using hname
  simp [callFunc,hf,h1,hb]
theorem Qsp (t:TypeId):Tame P (elemOf t):=by
  unfold elemOf
  refine .bnd (Zv _) fun d=>?_
  split<;>first | exact .pure _ | exact XW _
theorem Jn {α:Type} (e:RuntimeError):Tame P (runtimePanic e:Sem α):=by
  unfold runtimePanic
  refine .bnd Qgv fun p=>?_
  split<;>first | exact .halt _ | exact .bnd (Qsp _) fun _=>.bnd (Qkz _ _) fun _=>.halt _
theorem Qgs {α:Type} (k:IntKind) (x y:Int) (c:BoundsCode):Tame P (boundsPanic k x y c:Sem α):=by
  unfold boundsPanic
  split
  · exact .bnd (by rw [map_eq_pure_bind];exact .bnd (Qal _) fun _=>.pure _) fun _=>Jn _
  · exact .bnd (.pure _) fun _=>Jn _
theorem Qgr (v:Value):Tame P (asIntOf v):=by
  unfold asIntOf;split<;>first | exact .pure _ | exact ZR _ | exact XW _
theorem Qsm (v:Value):Tame P (asInt v):=.bnd (Qgr v) fun _=>.pure _
theorem QJa (v:Value):Tame P (asAddr v):=by
  unfold asAddr;split<;>first | exact .pure _ | exact Jn _ | exact XW _
theorem Qgu (t:TypeId) (x y:Value):Tame P (Instr.indexAt t x y):=by
  unfold Instr.indexAt
  refine .bnd (Qgr _) fun _=>.bnd (Zv _) fun _=>?_
  repeat' first
    | exact .pure _
    | exact XW _
    | exact ZR _
    | exact Zv _
    | exact YT _
    | exact Qgw _
    | exact Qgs _ _ _ _
    | refine .bnd ?_ fun _=>?_
    | split
    | (dsimp only;split)

theorem YH {α:Type} {c:Prop} [Decidable c] {a b:Sem α} (ha:Tame P a) (hb:Tame P b):Tame P (if c then a else b):=by
  split<;>assumption
theorem Qez {α β:Type} {m:Sem α} {f:α→Sem β} (h:∀ a w es r w',((f a).runT P w es).1≠.ok r w'):∀ w es r w',((m >>= f).runT P w es).1≠.ok r w':=fun w es r w'=>by
  rw [show (m >>= f)=m.bind f from rfl,Go.Sem.runT_bind']
  generalize m.runT P w es=x
  obtain ⟨x1,x2⟩:=x
  cases x1 with
  | ok a w1=>exact h a w1 x2 r w'
  | halt h w1=>simp
theorem Qfa {α:Type} (s:Unsupported):∀ w es r w',((unsupported s:Sem α).runT P w es).1≠.ok r w':=fun w es r w'=>by simp [unsupported]
theorem Qkw (v:Value):Tame P (Builtin.lenOf v):=by
  unfold Builtin.lenOf;split<;>first | exact .pure _ | exact XW _
theorem JR (a b:Nat) (v:Value):Tame P (Builtin.firstCells a b v):=by
  unfold Builtin.firstCells;split<;>first | exact Qsu _ _ | exact .pure _ | exact XW _
theorem Tame.und {α:Type} {T:TypeId} {d:TypeDesc} {f:TypeDesc→Sem α} (hu:P.underlying T=some d) (h:Tame P (f d)):Tame P (underlying T >>= f):=.same _ _ (fun _ _=>QX (Yn hu)) h
theorem Qsl {T e:TypeId} (hu:P.underlying T=some (.slice e)) (t:TypeId) (v x:Value):Tame P (Builtin.append_ #[T,T] t #[v,x]):=by
  unfold Builtin.append_
  dsimp only [List.getElem?_toArray,List.getElem?_cons_zero,List.getElem?_cons_succ]
  refine .und hu ?_
  dsimp only
  split
  · refine .bnd (YT _) fun size=>.und hu ?_
    simp only [Bool.false_eq_true,if_false,Bool.not_false,if_true,false_or,pure_bind]
    refine .bnd (Qkw _) fun n=>?_
    refine YH (.bnd (JR _ _ _) fun new=>?_) (.bnd (Z5 _) fun i1=>YH (.bnd (Jn _) fun _=>?_) ?_)
    · split<;>first | exact .bnd (Qao _ _ _) fun _=>.pure _ | exact .pure _
    all_goals
      refine .bnd (Z5 _) fun i2=>YH (.bnd (.doom _ (Qez fun b=>?_)) fun _=>?_) ?_
      · cases b
        · exact Qez fun _=>Qfa _
        · exact Qfa _
      all_goals exact .bnd (Qal _) fun _=>.bnd (Z5 _) fun _=>.bnd (Qea _) fun _=>.bnd (JR _ _ _) fun _=>.bnd (JR _ _ _) fun _=>.bnd (Qap _) fun _=>.bnd (Qam _ _) fun _=>.pure _
  · exact XW _
theorem QJe (aT:Array TypeId) (t:TypeId) (args:Array Value):Tame P (Builtin.copy_ aT t args):=by
  unfold Builtin.copy_
  split
  · refine .bnd (Zv _) fun _=>?_
    split
    · split
      · refine .bnd (Qkw _) fun n=>.bnd (YT _) fun _=>.bnd (JR _ _ _) fun _=>?_
        split<;>first | exact .bnd (Qao _ _ _) fun _=>.pure _ | exact .pure _
      · exact XW _
    · exact XW _
  · exact XW _
theorem QJc (t:TypeId) (len:Nat) (parts:Array (Nat×Value)):Tame P (Instr.buildSlice t len parts):=by
  unfold Instr.buildSlice
  repeat' first
    | exact .pure _
    | exact XW _
    | exact ZR _
    | exact Zv _
    | exact YT _
    | exact Qap _
    | exact Qam _ _
    | refine .bnd ?_ fun _=>?_
    | split
    | (dsimp only;split)
theorem Qky (t:TypeId) (x y:Value):Tame P (Instr.makeSlice t x y):=by
  unfold Instr.makeSlice
  repeat' first
    | exact .pure _
    | exact XW _
    | exact ZR _
    | exact Zv _
    | exact YT _
    | exact Z5 _
    | exact Qsm _
    | exact Qap _
    | exact Qea _
    | exact Qal _
    | exact Jn _
    | exact Qam _ _
    | refine .bnd ?_ fun _=>?_
    | split
    | (dsimp only;split)
theorem QJj (x:Value) (y:Nat) (c:BoundsCode):Tame P (Instr.sliceBound x y c):=by
  unfold Instr.sliceBound
  exact .bnd (Qgr _) fun _=>YH (.pure _) (Qgs _ _ _ _)
theorem QJk (s:Bool) (a b:Nat) (x y z:Option Value):Tame P (Instr.sliceBounds s a b x y z):=by
  unfold Instr.sliceBounds
  repeat' first
    | exact .pure _
    | exact XW _
    | exact QJj _ _ _
    | refine .bnd ?_ fun _=>?_
    | split
    | (dsimp only;split)
theorem ZQ (t:TypeId) (v:Value) (x y z:Option Value):Tame P (Instr.sliceAt t v x y z):=by
  unfold Instr.sliceAt Instr.slice
  repeat' first
    | exact .pure _
    | exact XW _
    | exact Zv _
    | exact Qgw _
    | exact QJa _
    | exact YT _
    | exact QJk _ _ _ _ _ _
    | refine .bnd ?_ fun _=>?_
    | split
    | (dsimp only;split)
theorem Qsx {α β:Type} (f:α→Sem β) (hf:∀ a,Tame P (f a)):∀ xs:List α,Tame P (xs.mapM f)
  | []=>by rw [List.mapM_nil];exact .pure _
  | x::xs=>by rw [List.mapM_cons];exact .bnd (hf x) fun _=>.bnd (Qsx f hf xs) fun _=>.pure _
theorem QJi {α β:Type} (f:α→Sem β) (hf:∀ a,Tame P (f a)) (xs:Array α):Tame P (xs.mapM f):=by
  rw [Array.mapM_eq_mapM_toList,map_eq_pure_bind];exact .bnd (Qsx f hf _) fun _=>.pure _
theorem Qsn (t:TypeId) (parts:Array (Nat×Value)):Tame P (Instr.build t parts):=by
  unfold Instr.build
  repeat' first
    | exact .pure _
    | exact XW _
    | exact ZR _
    | exact Zv _
    | exact YT _
    | exact Qap _
    | exact QJi _ (fun _=>.bnd (YT _) fun _=>.pure _) _
    | refine .bnd ?_ fun _=>?_
    | split
    | (dsimp only;split)
theorem Xu {m:Sem Value} (h:Tame P m):Tame P (m >>= fun v=>Pure.pure (Next.value v):Sem Next):=.bnd h fun _=>.pure _
theorem Qlb {m:Sem Unit} (h:Tame P m):Tame P (m >>= fun _=>Pure.pure Next.skip:Sem Next):=.bnd h fun _=>.pure _

end
end Go.Gw
