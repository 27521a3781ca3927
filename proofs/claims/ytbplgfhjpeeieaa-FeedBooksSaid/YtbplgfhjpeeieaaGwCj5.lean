/- Goroutines: more operations that are tame; runs that list nothing. No condition. -/
import Derived.Test.YtbplgfhjpeeieaaGwCj4
import Derived.Conc.MuLone
import Derived.Laws.Strings
import Derived.Laws.StructEq
import Derived.Laws.Build
import Derived.Laws.Entries
import Derived.Laws.NewBlocks
set_option linter.unusedVariables false
set_option linter.unusedSimpArgs false
set_option linter.unusedSectionVars false
set_option linter.unusedVariables false
namespace Go.Gw
open Go Go.Conc
section
variable {P : Program} {w : World} {T : TypeId}
def Zt (P : Program) (T : TypeId) : Prop := ∃ dsc, P.underlying T = some dsc ∧ (match dsc with | .struct _ | .array _ _ => False | _ => True)
def Aggr (P : Program) (T : TypeId) (k : Nat) : Prop := ∃ dsc i, P.underlying T = some dsc ∧ (match dsc with | .struct _ | .array _ _ => True | _ => False) ∧ P.info? T = some i ∧ i.size = k
def XF (P : Program) (T : TypeId) (k : Nat) : Prop := ∃ i, P.info? T = some i ∧ i.size = k

theorem J2 {T k : Nat} (h : XF P T k) : (sizeOf T).run P w = .ok k w := by
  obtain ⟨i, hi, hk⟩ := h
  simp [sizeOf, typeInfo, hi, hk]

theorem Qyj (h : Zt P T) : (isAgg T).run P w = .ok false w := by
  obtain ⟨dsc, hd, hm⟩ := h
  simp only [isAgg, Sem.run_bind, run_underlying hd, Result.andThen]
  cases dsc <;> simp at hm <;> rfl
theorem Qyk {k : Nat} (h : Aggr P T k) : (isAgg T).run P w = .ok true w := by
  obtain ⟨dsc, i, hd, hm, _⟩ := h
  simp only [isAgg, Sem.run_bind, run_underlying hd, Result.andThen]
  cases dsc <;> simp at hm <;> rfl
theorem Aggr.size {k : Nat} (h : Aggr P T k) : XF P T k := by obtain ⟨_, i, _, _, hi, hk⟩ := h; exact ⟨i, hi, hk⟩

theorem ZV {α β : Type} {m : Sem α} {f : α → Sem β} {a : α} {w w' : World} {es es' : Array Event} (h : m.runT P w es = (.ok a w', es')) : (m >>= f).runT P w es = (f a).runT P w' es' := by
  rw [show (m >>= f) = m.bind f from rfl, Go.Sem.runT_bind', h]
theorem Qjz {d : TypeDesc} {es : Array Event} (h : P.underlying T = some d) : (underlying T).runT P w es = (.ok d w, es) := by
  simp [run_underlying h]
theorem QOo {T k : Nat} {es : Array Event} (h : XF P T k) : (sizeOf T).runT P w es = (.ok k w, es) := by
  obtain ⟨i, hi, hk⟩ := h
  simp [sizeOf, typeInfo, hi, hk]
theorem Qpi {f : FuncId} {fn : Func} {c : Code} {args : Array Value} {es : Array Event} (hf : P.funcs[f]? = some fn) (hname : (fn.name == "runtime.NumGoroutine") = false) (hb : fn.body = some c) : (callFunc f args).runT P w es = (.ok (.enter f args) w, es) := by
  have h1 : fn.name ≠ "runtime.NumGoroutine" := by simpa using hname
  simp [callFunc, hf, h1, hb]
theorem QRb (t : TypeId) : Tame P (elemOf t) := by
  unfold elemOf
  refine .bnd (Qak _) fun d => ?_
  split <;> first | exact .pure _ | exact Y9 _
theorem Qgn {α : Type} (e : RuntimeError) : Tame P (runtimePanic e : Sem α) := by
  unfold runtimePanic
  refine .bnd Qku fun p => ?_
  split <;> first | exact .halt _ | exact .bnd (QRb _) fun _ => .bnd (Qqg _ _) fun _ => .halt _
theorem Qkq {α : Type} (k : IntKind) (x y : Int) (c : BoundsCode) : Tame P (boundsPanic k x y c : Sem α) := by
  unfold boundsPanic
  split
  · exact .bnd (by rw [map_eq_pure_bind]; exact .bnd (Qkr _) fun _ => .pure _) fun _ => Qgn _
  · exact .bnd (.pure _) fun _ => Qgn _
theorem Qkp (v : Value) : Tame P (asIntOf v) := by
  unfold asIntOf; split <;> first | exact .pure _ | exact Qal _ | exact Y9 _
theorem QQx (v : Value) : Tame P (asInt v) := .bnd (Qkp v) fun _ => .pure _
theorem QQw (v : Value) : Tame P (asAddr v) := by
  unfold asAddr; split <;> first | exact .pure _ | exact Qgn _ | exact Y9 _
theorem Qqf (t : TypeId) (x y : Value) : Tame P (Instr.indexAt t x y) := by
  unfold Instr.indexAt
  refine .bnd (Qkp _) fun _ => .bnd (Qak _) fun _ => ?_
  repeat' first
    | exact .pure _
    | exact Y9 _
    | exact Qal _
    | exact Qak _
    | exact JV _
    | exact Qkw _
    | exact Qkq _ _ _ _
    | refine .bnd ?_ fun _ => ?_
    | split
    | (dsimp only; split)

theorem J6 {α : Type} {c : Prop} [Decidable c] {a b : Sem α} (ha : Tame P a) (hb : Tame P b) : Tame P (if c then a else b) := by
  split <;> assumption
theorem Qru {α β : Type} {m : Sem α} {f : α → Sem β} (h : ∀ a w es r w', ((f a).runT P w es).1 ≠ .ok r w') : ∀ w es r w', ((m >>= f).runT P w es).1 ≠ .ok r w' := fun w es r w' => by
  rw [show (m >>= f) = m.bind f from rfl, Go.Sem.runT_bind']
  generalize m.runT P w es = x
  obtain ⟨x1, x2⟩ := x
  cases x1 with
  | ok a w1 => exact h a w1 x2 r w'
  | halt h w1 => simp
theorem Qrv {α : Type} (s : Unsupported) : ∀ w es r w', ((unsupported s : Sem α).runT P w es).1 ≠ .ok r w' := fun w es r w' => by simp [unsupported]
theorem QRd (v : Value) : Tame P (Builtin.lenOf v) := by
  unfold Builtin.lenOf; split <;> first | exact .pure _ | exact Y9 _
theorem Qqd (a b : Nat) (v : Value) : Tame P (Builtin.firstCells a b v) := by
  unfold Builtin.firstCells; split <;> first | exact QAo _ _ | exact .pure _ | exact Y9 _
theorem Tame.und {α : Type} {T : TypeId} {d : TypeDesc} {f : TypeDesc → Sem α} (hu : P.underlying T = some d) (h : Tame P (f d)) : Tame P (underlying T >>= f) := .same _ _ (fun _ _ => ZV (Qjz hu)) h
theorem Qqc {T e : TypeId} (hu : P.underlying T = some (.slice e)) (t : TypeId) (v x : Value) : Tame P (Builtin.append_ #[T, T] t #[v, x]) := by
  unfold Builtin.append_
  dsimp only [List.getElem?_toArray, List.getElem?_cons_zero, List.getElem?_cons_succ]
  refine .und hu ?_
  dsimp only
  split
  · refine .bnd (JV _) fun size => .und hu ?_
    simp only [Bool.false_eq_true, if_false, Bool.not_false, if_true, false_or, pure_bind]
    refine .bnd (QRd _) fun n => ?_
    refine J6 (.bnd (Qqd _ _ _) fun new => ?_) (.bnd (Qdv _) fun i1 => J6 (.bnd (Qgn _) fun _ => ?_) ?_)
    · split <;> first | exact .bnd (Qkv _ _ _) fun _ => .pure _ | exact .pure _
    all_goals
      refine .bnd (Qdv _) fun i2 => J6 (.bnd (.doom _ (Qru fun b => ?_)) fun _ => ?_) ?_
      · cases b
        · exact Qru fun _ => Qrv _
        · exact Qrv _
      all_goals exact .bnd (Qkr _) fun _ => .bnd (Qdv _) fun _ => .bnd (QAg _) fun _ => .bnd (Qqd _ _ _) fun _ => .bnd (Qqd _ _ _) fun _ => .bnd (Qgo _) fun _ => .bnd (Qkt _ _) fun _ => .pure _
  · exact Y9 _
theorem QQz (t : TypeId) (len : Nat) (parts : Array (Nat × Value)) : Tame P (Instr.buildSlice t len parts) := by
  unfold Instr.buildSlice
  repeat' first
    | exact .pure _
    | exact Y9 _
    | exact Qal _
    | exact Qak _
    | exact JV _
    | exact Qgo _
    | exact Qkt _ _
    | refine .bnd ?_ fun _ => ?_
    | split
    | (dsimp only; split)
theorem QRe (t : TypeId) (x y : Value) : Tame P (Instr.makeSlice t x y) := by
  unfold Instr.makeSlice
  repeat' first
    | exact .pure _
    | exact Y9 _
    | exact Qal _
    | exact Qak _
    | exact JV _
    | exact Qdv _
    | exact QQx _
    | exact Qgo _
    | exact QAg _
    | exact Qkr _
    | exact Qgn _
    | exact Qkt _ _
    | refine .bnd ?_ fun _ => ?_
    | split
    | (dsimp only; split)
theorem QRh (x : Value) (y : Nat) (c : BoundsCode) : Tame P (Instr.sliceBound x y c) := by
  unfold Instr.sliceBound
  exact .bnd (Qkp _) fun _ => J6 (.pure _) (Qkq _ _ _ _)
theorem QRi (s : Bool) (a b : Nat) (x y z : Option Value) : Tame P (Instr.sliceBounds s a b x y z) := by
  unfold Instr.sliceBounds
  repeat' first
    | exact .pure _
    | exact Y9 _
    | exact QRh _ _ _
    | refine .bnd ?_ fun _ => ?_
    | split
    | (dsimp only; split)
theorem QRg (t : TypeId) (v : Value) (x y z : Option Value) : Tame P (Instr.sliceAt t v x y z) := by
  unfold Instr.sliceAt Instr.slice
  repeat' first
    | exact .pure _
    | exact Y9 _
    | exact Qak _
    | exact Qkw _
    | exact QQw _
    | exact JV _
    | exact QRi _ _ _ _ _ _
    | refine .bnd ?_ fun _ => ?_
    | split
    | (dsimp only; split)
theorem QAr {α β : Type} (f : α → Sem β) (hf : ∀ a, Tame P (f a)) : ∀ xs : List α, Tame P (xs.mapM f)
  | [] => by rw [List.mapM_nil]; exact .pure _
  | x :: xs => by rw [List.mapM_cons]; exact .bnd (hf x) fun _ => .bnd (QAr f hf xs) fun _ => .pure _
theorem QRf {α β : Type} (f : α → Sem β) (hf : ∀ a, Tame P (f a)) (xs : Array α) : Tame P (xs.mapM f) := by
  rw [Array.mapM_eq_mapM_toList, map_eq_pure_bind]; exact .bnd (QAr f hf _) fun _ => .pure _
theorem QAh (t : TypeId) (parts : Array (Nat × Value)) : Tame P (Instr.build t parts) := by
  unfold Instr.build
  repeat' first
    | exact .pure _
    | exact Y9 _
    | exact Qal _
    | exact Qak _
    | exact JV _
    | exact Qgo _
    | exact QRf _ (fun _ => .bnd (JV _) fun _ => .pure _) _
    | refine .bnd ?_ fun _ => ?_
    | split
    | (dsimp only; split)
theorem Zk {m : Sem Value} (h : Tame P m) : Tame P (m >>= fun v => Pure.pure (Next.value v) : Sem Next) := .bnd h fun _ => .pure _
theorem QAv {m : Sem Unit} (h : Tame P m) : Tame P (m >>= fun _ => Pure.pure Next.skip : Sem Next) := .bnd h fun _ => .pure _

end
end Go.Gw
