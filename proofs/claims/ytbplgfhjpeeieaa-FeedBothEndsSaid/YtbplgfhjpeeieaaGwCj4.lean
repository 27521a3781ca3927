/- Goroutines: which operations are tame. No condition. -/
import Derived.Test.YtbplgfhjpeeieaaGwCj3
set_option linter.unusedVariables false
set_option linter.unusedSimpArgs false
set_option linter.unusedSectionVars false
set_option linter.unusedVariables false
namespace Go.Gw
open Go Go.Conc
section
variable {P : Program} {α β : Type}
theorem Tame.bnd {m : Sem α} {f : α → Sem β} (h : Tame P m) (hf : ∀ a, Tame P (f a)) : Tame P (m >>= f) := Tame.bind h hf
theorem Tame.still {m : Sem α} (r : α) (h : ∀ w es, m.runT P w es = (.ok r w, es)) : Tame P m := .same m (.pure r) (fun w es => by rw [h]; rfl) (.pure r)
theorem Yb (s : String) : Tame P (stuck s : Sem α) := .halt _
theorem ZD (s : Unsupported) : Tame P (unsupported s : Sem α) := .halt _
theorem Qft : Tame P program := .program _ (.pure _)
theorem Quw (a : Addr) : Tame P (load a) := .load _ _ fun v => .pure v
theorem QJc (a : Addr) (v : Value) : Tame P (store a v) := .store _ _ _ (.pure ())
theorem Qfq (q : Question) : Tame P (choose q) := .choose _ _ fun n => .pure n
theorem Qvc (o : Obj) (h : Obj.still o = true) : Tame P (newObj o) := .new _ _ h fun n => .pure n
theorem Quq (n : Nat) : Tame P (askRoom n) := by
  unfold askRoom; split
  · exact .room _ (.pure ())
  · exact .pure ()
theorem J8 (t : TypeId) : Tame P (typeInfo t) := .bnd Qft fun p => by
  split
  · exact .pure _
  · exact Yb _
theorem ZQ (t : TypeId) : Tame P (underlying t) := .bnd Qft fun p => by
  split
  · exact .pure _
  · exact Yb _
theorem Qcc (t : TypeId) : Tame P (zeroValue t) := .bnd (J8 t) fun p => by
  split
  · exact .pure _
  · exact ZD _
theorem Zp (t : TypeId) : Tame P (sizeOf t) := .bnd (J8 t) fun p => .pure _
theorem Quv (t : TypeId) : Tame P (isAgg t) := .bnd (ZQ t) fun p => by
  split <;> exact .pure _
theorem Quz (a : Addr) : ∀ (n i : Nat) (acc : Array Value), Tame P (loadCellsFrom a i n acc)
  | 0, _, _ => .pure _
  | n + 1, i, acc => .bnd (Quw _) fun v => Quz a n (i + 1) (acc.push v)
theorem Quy (a : Addr) (n : Nat) : Tame P (loadCells a n) := Quz a n 0 #[]
theorem Qfu (a : Addr) : ∀ (vs : List Value) (i : Nat), Tame P (storeCells a vs i)
  | [], _ => by unfold storeCells; exact .pure _
  | v :: vs, i => by unfold storeCells; exact .bnd (QJc _ _) fun _ => Qfu a vs (i + 1)
theorem Qva (t : TypeId) (a : Addr) : Tame P (loadVar t a) := .bnd (Quv t) fun b => by
  split
  · exact .bnd (Zp t) fun n => .bnd (Quy a n) fun _ => .pure _
  · exact Quw a
theorem QJd (t : TypeId) (a : Addr) (v : Value) : Tame P (storeVar t a v) := .bnd (Zp t) fun n => by
  split
  · exact .bnd (Yb _) fun _ => Qfu _ _ _
  · exact Qfu _ _ _
theorem Qfs (t : TypeId) (c : Array Value) : Tame P (newRow t c) := .bnd (Qvc _ rfl) fun n => .pure _
theorem Qkx (t : TypeId) (v : Value) : Tame P (newVar t v) := Qfs t _
theorem Qfv (v : Value) : Tame P (Instr.sureAddr v) := by
  unfold Instr.sureAddr; split
  · exact .pure _
  · exact Yb _
theorem Qux (t : TypeId) (v : Value) : Tame P (Instr.loadAt t v) := .bnd (Qfv v) fun a => Qva t a
theorem Qve (t : TypeId) (v x : Value) : Tame P (Instr.storeAt t v x) := .bnd (Qfv v) fun a => QJd t a x
theorem QIm (t : TypeId) : Tame P (Instr.alloc t true (.tuple #[])) := .bnd (Qcc t) fun z => .bnd (Qkx t z) fun _ => .pure _
theorem QIp (t : TypeId) (v : Value) : Tame P (Instr.box t v) := .bnd (Qkx t v) fun _ => .pure _
end
end Go.Gw
