/- Goroutines: which operations are tame. No condition. -/
import Derived.Test.YtbplgfhjpeeieaaGwCj3
set_option linter.unusedVariables false
set_option linter.unusedSimpArgs false
set_option linter.unusedSectionVars false
set_option linter.unusedVariables false
namespace Go.Gw
open Go Go.Conc
section
variable {P : Program} {α β : Type}
theorem Tame.bnd {m : Sem α} {f : α → Sem β} (h : Tame P m) (hf : ∀ a, Tame P (f a)) : Tame P (m >>= f) := Tame.bind h hf
theorem Tame.still {m : Sem α} (r : α) (h : ∀ w es, m.runT P w es = (.ok r w, es)) : Tame P m := .same m (.pure r) (fun w es => by rw [h]; rfl) (.pure r)
theorem YR (s : String) : Tame P (stuck s : Sem α) := .halt _
theorem Qaa (s : Unsupported) : Tame P (unsupported s : Sem α) := .halt _
theorem Qke : Tame P program := .program _ (.pure _)
theorem QAg (a : Addr) : Tame P (load a) := .load _ _ fun v => .pure v
theorem QQw (a : Addr) (v : Value) : Tame P (store a v) := .store _ _ _ (.pure ())
theorem Qkb (q : Question) : Tame P (choose q) := .choose _ _ fun n => .pure n
theorem QAm (o : Obj) (h : Obj.still o = true) : Tame P (newObj o) := .new _ _ h fun n => .pure n
theorem QAb (n : Nat) : Tame P (askRoom n) := by
  unfold askRoom; split
  · exact .room _ (.pure ())
  · exact .pure ()
theorem Qdn (t : TypeId) : Tame P (typeInfo t) := .bnd Qke fun p => by
  split
  · exact .pure _
  · exact YR _
theorem J9 (t : TypeId) : Tame P (underlying t) := .bnd Qke fun p => by
  split
  · exact .pure _
  · exact YR _
theorem Qge (t : TypeId) : Tame P (zeroValue t) := .bnd (Qdn t) fun p => by
  split
  · exact .pure _
  · exact Qaa _
theorem JA (t : TypeId) : Tame P (sizeOf t) := .bnd (Qdn t) fun p => .pure _
theorem QAf (t : TypeId) : Tame P (isAgg t) := .bnd (J9 t) fun p => by
  split <;> exact .pure _
theorem QAj (a : Addr) : ∀ (n i : Nat) (acc : Array Value), Tame P (loadCellsFrom a i n acc)
  | 0, _, _ => .pure _
  | n + 1, i, acc => .bnd (QAg _) fun v => QAj a n (i + 1) (acc.push v)
theorem QAi (a : Addr) (n : Nat) : Tame P (loadCells a n) := QAj a n 0 #[]
theorem Qkf (a : Addr) : ∀ (vs : List Value) (i : Nat), Tame P (storeCells a vs i)
  | [], _ => by unfold storeCells; exact .pure _
  | v :: vs, i => by unfold storeCells; exact .bnd (QQw _ _) fun _ => Qkf a vs (i + 1)
theorem QAk (t : TypeId) (a : Addr) : Tame P (loadVar t a) := .bnd (QAf t) fun b => by
  split
  · exact .bnd (JA t) fun n => .bnd (QAi a n) fun _ => .pure _
  · exact QAg a
theorem QQx (t : TypeId) (a : Addr) (v : Value) : Tame P (storeVar t a v) := .bnd (JA t) fun n => by
  split
  · exact .bnd (YR _) fun _ => Qkf _ _ _
  · exact Qkf _ _ _
theorem Qkd (t : TypeId) (c : Array Value) : Tame P (newRow t c) := .bnd (QAm _ rfl) fun n => .pure _
theorem Qpr (t : TypeId) (v : Value) : Tame P (newVar t v) := Qkd t _
theorem Qkg (v : Value) : Tame P (Instr.sureAddr v) := by
  unfold Instr.sureAddr; split
  · exact .pure _
  · exact YR _
theorem QAh (t : TypeId) (v : Value) : Tame P (Instr.loadAt t v) := .bnd (Qkg v) fun a => QAk t a
theorem QAo (t : TypeId) (v x : Value) : Tame P (Instr.storeAt t v x) := .bnd (Qkg v) fun a => QQx t a x
theorem QQf (t : TypeId) : Tame P (Instr.alloc t true (.tuple #[])) := .bnd (Qge t) fun z => .bnd (Qpr t z) fun _ => .pure _
theorem QQi (t : TypeId) (v : Value) : Tame P (Instr.box t v) := .bnd (Qpr t v) fun _ => .pure _
end
end Go.Gw
