/- Goroutines: which operations are tame. No condition. -/
import Derived.Test.YtbplgfhjpeeieaaGwCj3
set_option linter.unusedVariables false
set_option linter.unusedSimpArgs false
set_option linter.unusedSectionVars false
set_option linter.unusedVariables false
namespace Go.Gw
open Go Go.Conc
section
variable {P : Program} {α β : Type}
theorem Tame.bnd {m : Sem α} {f : α → Sem β} (h : Tame P m) (hf : ∀ a, Tame P (f a)) : Tame P (m >>= f) := Tame.bind h hf
theorem Tame.still {m : Sem α} (r : α) (h : ∀ w es, m.runT P w es = (.ok r w, es)) : Tame P m := .same m (.pure r) (fun w es => by rw [h]; rfl) (.pure r)
theorem Y9 (s : String) : Tame P (stuck s : Sem α) := .halt _
theorem Qal (s : Unsupported) : Tame P (unsupported s : Sem α) := .halt _
theorem Qkj : Tame P program := .program _ (.pure _)
theorem QAu (a : Addr) : Tame P (load a) := .load _ _ fun v => .pure v
theorem QQm (a : Addr) (v : Value) : Tame P (store a v) := .store _ _ _ (.pure ())
theorem Qkg (q : Question) : Tame P (choose q) := .choose _ _ fun n => .pure n
theorem QBa (o : Obj) (h : Obj.still o = true) : Tame P (newObj o) := .new _ _ h fun n => .pure n
theorem QAo (n : Nat) : Tame P (askRoom n) := by
  unfold askRoom; split
  · exact .room _ (.pure ())
  · exact .pure ()
theorem Qed (t : TypeId) : Tame P (typeInfo t) := .bnd Qkj fun p => by
  split
  · exact .pure _
  · exact Y9 _
theorem Qak (t : TypeId) : Tame P (underlying t) := .bnd Qkj fun p => by
  split
  · exact .pure _
  · exact Y9 _
theorem Qgl (t : TypeId) : Tame P (zeroValue t) := .bnd (Qed t) fun p => by
  split
  · exact .pure _
  · exact Qal _
theorem JP (t : TypeId) : Tame P (sizeOf t) := .bnd (Qed t) fun p => .pure _
theorem QAt (t : TypeId) : Tame P (isAgg t) := .bnd (Qak t) fun p => by
  split <;> exact .pure _
theorem QAx (a : Addr) : ∀ (n i : Nat) (acc : Array Value), Tame P (loadCellsFrom a i n acc)
  | 0, _, _ => .pure _
  | n + 1, i, acc => .bnd (QAu _) fun v => QAx a n (i + 1) (acc.push v)
theorem QAw (a : Addr) (n : Nat) : Tame P (loadCells a n) := QAx a n 0 #[]
theorem Qkk (a : Addr) : ∀ (vs : List Value) (i : Nat), Tame P (storeCells a vs i)
  | [], _ => by unfold storeCells; exact .pure _
  | v :: vs, i => by unfold storeCells; exact .bnd (QQm _ _) fun _ => Qkk a vs (i + 1)
theorem QAy (t : TypeId) (a : Addr) : Tame P (loadVar t a) := .bnd (QAt t) fun b => by
  split
  · exact .bnd (JP t) fun n => .bnd (QAw a n) fun _ => .pure _
  · exact QAu a
theorem QQn (t : TypeId) (a : Addr) (v : Value) : Tame P (storeVar t a v) := .bnd (JP t) fun n => by
  split
  · exact .bnd (Y9 _) fun _ => Qkk _ _ _
  · exact Qkk _ _ _
theorem Qki (t : TypeId) (c : Array Value) : Tame P (newRow t c) := .bnd (QBa _ rfl) fun n => .pure _
theorem Qqe (t : TypeId) (v : Value) : Tame P (newVar t v) := Qki t _
theorem Qkl (v : Value) : Tame P (Instr.sureAddr v) := by
  unfold Instr.sureAddr; split
  · exact .pure _
  · exact Y9 _
theorem QAv (t : TypeId) (v : Value) : Tame P (Instr.loadAt t v) := .bnd (Qkl v) fun a => QAy t a
theorem QBc (t : TypeId) (v x : Value) : Tame P (Instr.storeAt t v x) := .bnd (Qkl v) fun a => QQn t a x
theorem QPx (t : TypeId) : Tame P (Instr.alloc t true (.tuple #[])) := .bnd (Qgl t) fun z => .bnd (Qqe t z) fun _ => .pure _
theorem QQa (t : TypeId) (v : Value) : Tame P (Instr.box t v) := .bnd (Qqe t v) fun _ => .pure _
end
end Go.Gw
