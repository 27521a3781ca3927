/- Goroutines: which operations are tame. No condition. -/
import Derived.Test.YtbplgfhjpeeieaaGwCj3
set_option linter.unusedVariables false
set_option linter.unusedSimpArgs false
set_option linter.unusedSectionVars false
set_option linter.unusedVariables false
namespace Go.Gw
open Go Go.Conc
section
variable {P : Program} {α β : Type}
theorem Tame.bnd {m : Sem α} {f : α → Sem β} (h : Tame P m) (hf : ∀ a, Tame P (f a)) : Tame P (m >>= f) := Tame.bind h hf
theorem Tame.still {m : Sem α} (r : α) (h : ∀ w es, m.runT P w es = (.ok r w, es)) : Tame P m := .same m (.pure r) (fun w es => by rw [h]; rfl) (.pure r)
theorem YK (s : String) : Tame P (stuck s : Sem α) := .halt _
theorem JE (s : Unsupported) : Tame P (unsupported s : Sem α) := .halt _
theorem Qho : Tame P program := .program _ (.pure _)
theorem Qtx (a : Addr) : Tame P (load a) := .load _ _ fun v => .pure v
theorem QJl (a : Addr) (v : Value) : Tame P (store a v) := .store _ _ _ (.pure ())
theorem Qhl (q : Question) : Tame P (choose q) := .choose _ _ fun n => .pure n
theorem Qud (o : Obj) (h : Obj.still o = true) : Tame P (newObj o) := .new _ _ h fun n => .pure n
theorem Qtu (n : Nat) : Tame P (askRoom n) := by
  unfold askRoom; split
  · exact .room _ (.pure ())
  · exact .pure ()
theorem Qcl (t : TypeId) : Tame P (typeInfo t) := .bnd Qho fun p => by
  split
  · exact .pure _
  · exact YK _
theorem JC (t : TypeId) : Tame P (underlying t) := .bnd Qho fun p => by
  split
  · exact .pure _
  · exact YK _
theorem Qep (t : TypeId) : Tame P (zeroValue t) := .bnd (Qcl t) fun p => by
  split
  · exact .pure _
  · exact JE _
theorem ZX (t : TypeId) : Tame P (sizeOf t) := .bnd (Qcl t) fun p => .pure _
theorem Qtw (t : TypeId) : Tame P (isAgg t) := .bnd (JC t) fun p => by
  split <;> exact .pure _
theorem Qua (a : Addr) : ∀ (n i : Nat) (acc : Array Value), Tame P (loadCellsFrom a i n acc)
  | 0, _, _ => .pure _
  | n + 1, i, acc => .bnd (Qtx _) fun v => Qua a n (i + 1) (acc.push v)
theorem Qtz (a : Addr) (n : Nat) : Tame P (loadCells a n) := Qua a n 0 #[]
theorem Qhp (a : Addr) : ∀ (vs : List Value) (i : Nat), Tame P (storeCells a vs i)
  | [], _ => by unfold storeCells; exact .pure _
  | v :: vs, i => by unfold storeCells; exact .bnd (QJl _ _) fun _ => Qhp a vs (i + 1)
theorem Qub (t : TypeId) (a : Addr) : Tame P (loadVar t a) := .bnd (Qtw t) fun b => by
  split
  · exact .bnd (ZX t) fun n => .bnd (Qtz a n) fun _ => .pure _
  · exact Qtx a
theorem QJm (t : TypeId) (a : Addr) (v : Value) : Tame P (storeVar t a v) := .bnd (ZX t) fun n => by
  split
  · exact .bnd (YK _) fun _ => Qhp _ _ _
  · exact Qhp _ _ _
theorem Qhn (t : TypeId) (c : Array Value) : Tame P (newRow t c) := .bnd (Qud _ rfl) fun n => .pure _
theorem Qlq (t : TypeId) (v : Value) : Tame P (newVar t v) := Qhn t _
theorem Qhq (v : Value) : Tame P (Instr.sureAddr v) := by
  unfold Instr.sureAddr; split
  · exact .pure _
  · exact YK _
theorem Qty (t : TypeId) (v : Value) : Tame P (Instr.loadAt t v) := .bnd (Qhq v) fun a => Qub t a
theorem Quf (t : TypeId) (v x : Value) : Tame P (Instr.storeAt t v x) := .bnd (Qhq v) fun a => QJm t a x
theorem QIs (t : TypeId) : Tame P (Instr.alloc t true (.tuple #[])) := .bnd (Qep t) fun z => .bnd (Qlq t z) fun _ => .pure _
theorem QIv (t : TypeId) (v : Value) : Tame P (Instr.box t v) := .bnd (Qlq t v) fun _ => .pure _
end
end Go.Gw
