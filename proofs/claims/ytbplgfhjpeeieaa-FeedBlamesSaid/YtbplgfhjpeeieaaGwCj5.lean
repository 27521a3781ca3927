/- Goroutines: more operations that are tame; runs that list nothing. No condition. -/
import Derived.Test.YtbplgfhjpeeieaaGwCj4
import Derived.Conc.MuLone
import Derived.Laws.Strings
import Derived.Laws.StructEq
import Derived.Laws.Build
import Derived.Laws.Entries
import Derived.Laws.NewBlocks
set_option linter.unusedVariables false
set_option linter.unusedSimpArgs false
set_option linter.unusedSectionVars false
set_option linter.unusedVariables false
namespace Go.Gw
open Go Go.Conc
section
variable {P : Program} {w : World} {T : TypeId}
def Zw (P : Program) (T : TypeId) : Prop := ∃ dsc, P.underlying T = some dsc ∧ (match dsc with | .struct _ | .array _ _ => False | _ => True)
def Aggr (P : Program) (T : TypeId) (k : Nat) : Prop := ∃ dsc i, P.underlying T = some dsc ∧ (match dsc with | .struct _ | .array _ _ => True | _ => False) ∧ P.info? T = some i ∧ i.size = k
def XU (P : Program) (T : TypeId) (k : Nat) : Prop := ∃ i, P.info? T = some i ∧ i.size = k

theorem Qah {T k : Nat} (h : XU P T k) : (sizeOf T).run P w = .ok k w := by
  obtain ⟨i, hi, hk⟩ := h
  simp [sizeOf, typeInfo, hi, hk]

theorem Qxl (h : Zw P T) : (isAgg T).run P w = .ok false w := by
  obtain ⟨dsc, hd, hm⟩ := h
  simp only [isAgg, Sem.run_bind, run_underlying hd, Result.andThen]
  cases dsc <;> simp at hm <;> rfl
theorem Qxm {k : Nat} (h : Aggr P T k) : (isAgg T).run P w = .ok true w := by
  obtain ⟨dsc, i, hd, hm, _⟩ := h
  simp only [isAgg, Sem.run_bind, run_underlying hd, Result.andThen]
  cases dsc <;> simp at hm <;> rfl
theorem Aggr.size {k : Nat} (h : Aggr P T k) : XU P T k := by obtain ⟨_, i, _, _, hi, hk⟩ := h; exact ⟨i, hi, hk⟩

theorem ZE {α β : Type} {m : Sem α} {f : α → Sem β} {a : α} {w w' : World} {es es' : Array Event} (h : m.runT P w es = (.ok a w', es')) : (m >>= f).runT P w es = (f a).runT P w' es' := by
  rw [show (m >>= f) = m.bind f from rfl, Go.Sem.runT_bind', h]
theorem Qjp {d : TypeDesc} {es : Array Event} (h : P.underlying T = some d) : (underlying T).runT P w es = (.ok d w, es) := by
  simp [run_underlying h]
theorem QNp {T k : Nat} {es : Array Event} (h : XU P T k) : (sizeOf T).runT P w es = (.ok k w, es) := by
  obtain ⟨i, hi, hk⟩ := h
  simp [sizeOf, typeInfo, hi, hk]
theorem Qou {f : FuncId} {fn : Func} {c : Code} {args : Array Value} {es : Array Event} (hf : P.funcs[f]? = some fn) (hname : (fn.name == "runtime.NumGoroutine") = false) (hb : fn.body = some c) : (callFunc f args).runT P w es = (.ok (.enter f args) w, es) := by
  have h1 : fn.name ≠ "runtime.NumGoroutine" := by simpa using hname
  simp [callFunc, hf, h1, hb]
theorem QQe (t : TypeId) : Tame P (elemOf t) := by
  unfold elemOf
  refine .bnd (J4 _) fun d => ?_
  split <;> first | exact .pure _ | exact Y1 _
theorem Qgk {α : Type} (e : RuntimeError) : Tame P (runtimePanic e : Sem α) := by
  unfold runtimePanic
  refine .bnd Qkh fun p => ?_
  split <;> first | exact .halt _ | exact .bnd (QQe _) fun _ => .bnd (Qpn _ _) fun _ => .halt _
theorem Qkd {α : Type} (k : IntKind) (x y : Int) (c : BoundsCode) : Tame P (boundsPanic k x y c : Sem α) := by
  unfold boundsPanic
  split
  · exact .bnd (by rw [map_eq_pure_bind]; exact .bnd (Qke _) fun _ => .pure _) fun _ => Qgk _
  · exact .bnd (.pure _) fun _ => Qgk _
theorem Qkc (v : Value) : Tame P (asIntOf v) := by
  unfold asIntOf; split <;> first | exact .pure _ | exact J5 _ | exact Y1 _
theorem QPz (v : Value) : Tame P (asInt v) := .bnd (Qkc v) fun _ => .pure _
theorem QPy (v : Value) : Tame P (asAddr v) := by
  unfold asAddr; split <;> first | exact .pure _ | exact Qgk _ | exact Y1 _
theorem Qzf (t : TypeId) (x y : Value) : Tame P (Instr.indexAt t x y) := by
  unfold Instr.indexAt
  refine .bnd (Qkc _) fun _ => .bnd (J4 _) fun _ => ?_
  repeat' first
    | exact .pure _
    | exact Y1 _
    | exact J5 _
    | exact J4 _
    | exact Jz _
    | exact Qkj _
    | exact Qkd _ _ _ _
    | refine .bnd ?_ fun _ => ?_
    | split
    | (dsimp only; split)

theorem JM {α : Type} {c : Prop} [Decidable c] {a b : Sem α} (ha : Tame P a) (hb : Tame P b) : Tame P (if c then a else b) := by
  split <;> assumption
theorem Qqw {α β : Type} {m : Sem α} {f : α → Sem β} (h : ∀ a w es r w', ((f a).runT P w es).1 ≠ .ok r w') : ∀ w es r w', ((m >>= f).runT P w es).1 ≠ .ok r w' := fun w es r w' => by
  rw [show (m >>= f) = m.bind f from rfl, Go.Sem.runT_bind']
  generalize m.runT P w es = x
  obtain ⟨x1, x2⟩ := x
  cases x1 with
  | ok a w1 => exact h a w1 x2 r w'
  | halt h w1 => simp
theorem Qqx {α : Type} (s : Unsupported) : ∀ w es r w', ((unsupported s : Sem α).runT P w es).1 ≠ .ok r w' := fun w es r w' => by simp [unsupported]
theorem QQh (v : Value) : Tame P (Builtin.lenOf v) := by
  unfold Builtin.lenOf; split <;> first | exact .pure _ | exact Y1 _
theorem Qpl (a b : Nat) (v : Value) : Tame P (Builtin.firstCells a b v) := by
  unfold Builtin.firstCells; split <;> first | exact Qzj _ _ | exact .pure _ | exact Y1 _
theorem Tame.und {α : Type} {T : TypeId} {d : TypeDesc} {f : TypeDesc → Sem α} (hu : P.underlying T = some d) (h : Tame P (f d)) : Tame P (underlying T >>= f) := .same _ _ (fun _ _ => ZE (Qjp hu)) h
theorem Qpk {T e : TypeId} (hu : P.underlying T = some (.slice e)) (t : TypeId) (v x : Value) : Tame P (Builtin.append_ #[T, T] t #[v, x]) := by
  unfold Builtin.append_
  dsimp only [List.getElem?_toArray, List.getElem?_cons_zero, List.getElem?_cons_succ]
  refine .und hu ?_
  dsimp only
  split
  · refine .bnd (Jz _) fun size => .und hu ?_
    simp only [Bool.false_eq_true, if_false, Bool.not_false, if_true, false_or, pure_bind]
    refine .bnd (QQh _) fun n => ?_
    refine JM (.bnd (Qpl _ _ _) fun new => ?_) (.bnd (Qdr _) fun i1 => JM (.bnd (Qgk _) fun _ => ?_) ?_)
    · split <;> first | exact .bnd (Qki _ _ _) fun _ => .pure _ | exact .pure _
    all_goals
      refine .bnd (Qdr _) fun i2 => JM (.bnd (.doom _ (Qqw fun b => ?_)) fun _ => ?_) ?_
      · cases b
        · exact Qqw fun _ => Qqx _
        · exact Qqx _
      all_goals exact .bnd (Qke _) fun _ => .bnd (Qdr _) fun _ => .bnd (Qzc _) fun _ => .bnd (Qpl _ _ _) fun _ => .bnd (Qpl _ _ _) fun _ => .bnd (Qgl _) fun _ => .bnd (Qkg _ _) fun _ => .pure _
  · exact Y1 _
theorem QQc (t : TypeId) (len : Nat) (parts : Array (Nat × Value)) : Tame P (Instr.buildSlice t len parts) := by
  unfold Instr.buildSlice
  repeat' first
    | exact .pure _
    | exact Y1 _
    | exact J5 _
    | exact J4 _
    | exact Jz _
    | exact Qgl _
    | exact Qkg _ _
    | refine .bnd ?_ fun _ => ?_
    | split
    | (dsimp only; split)
theorem QQi (t : TypeId) (x y : Value) : Tame P (Instr.makeSlice t x y) := by
  unfold Instr.makeSlice
  repeat' first
    | exact .pure _
    | exact Y1 _
    | exact J5 _
    | exact J4 _
    | exact Jz _
    | exact Qdr _
    | exact QPz _
    | exact Qgl _
    | exact Qzc _
    | exact Qke _
    | exact Qgk _
    | exact Qkg _ _
    | refine .bnd ?_ fun _ => ?_
    | split
    | (dsimp only; split)
theorem QQl (x : Value) (y : Nat) (c : BoundsCode) : Tame P (Instr.sliceBound x y c) := by
  unfold Instr.sliceBound
  exact .bnd (Qkc _) fun _ => JM (.pure _) (Qkd _ _ _ _)
theorem QQm (s : Bool) (a b : Nat) (x y z : Option Value) : Tame P (Instr.sliceBounds s a b x y z) := by
  unfold Instr.sliceBounds
  repeat' first
    | exact .pure _
    | exact Y1 _
    | exact QQl _ _ _
    | refine .bnd ?_ fun _ => ?_
    | split
    | (dsimp only; split)
theorem QQk (t : TypeId) (v : Value) (x y z : Option Value) : Tame P (Instr.sliceAt t v x y z) := by
  unfold Instr.sliceAt Instr.slice
  repeat' first
    | exact .pure _
    | exact Y1 _
    | exact J4 _
    | exact Qkj _
    | exact QPy _
    | exact Jz _
    | exact QQm _ _ _ _ _ _
    | refine .bnd ?_ fun _ => ?_
    | split
    | (dsimp only; split)
theorem Qzm {α β : Type} (f : α → Sem β) (hf : ∀ a, Tame P (f a)) : ∀ xs : List α, Tame P (xs.mapM f)
  | [] => by rw [List.mapM_nil]; exact .pure _
  | x :: xs => by rw [List.mapM_cons]; exact .bnd (hf x) fun _ => .bnd (Qzm f hf xs) fun _ => .pure _
theorem QQj {α β : Type} (f : α → Sem β) (hf : ∀ a, Tame P (f a)) (xs : Array α) : Tame P (xs.mapM f) := by
  rw [Array.mapM_eq_mapM_toList, map_eq_pure_bind]; exact .bnd (Qzm f hf _) fun _ => .pure _
theorem QQb (t : TypeId) (parts : Array (Nat × Value)) : Tame P (Instr.build t parts) := by
  unfold Instr.build
  repeat' first
    | exact .pure _
    | exact Y1 _
    | exact J5 _
    | exact J4 _
    | exact Jz _
    | exact Qgl _
    | exact QQj _ (fun _ => .bnd (Jz _) fun _ => .pure _) _
    | refine .bnd ?_ fun _ => ?_
    | split
    | (dsimp only; split)
theorem Zf {m : Sem Value} (h : Tame P m) : Tame P (m >>= fun v => Pure.pure (Next.value v) : Sem Next) := .bnd h fun _ => .pure _
theorem Qzq {m : Sem Unit} (h : Tame P m) : Tame P (m >>= fun _ => Pure.pure Next.skip : Sem Next) := .bnd h fun _ => .pure _

end
end Go.Gw
