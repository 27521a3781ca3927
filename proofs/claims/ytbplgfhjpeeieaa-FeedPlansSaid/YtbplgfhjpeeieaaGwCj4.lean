/- Goroutines: which operations are tame. No condition. -/
import Derived.Test.YtbplgfhjpeeieaaGwCj3
set_option linter.unusedVariables false
set_option linter.unusedSimpArgs false
set_option linter.unusedSectionVars false
set_option linter.unusedVariables false
namespace Go.Gw
open Go Go.Conc
section
variable {P : Program} {α β : Type}
theorem Tame.bnd {m : Sem α} {f : α → Sem β} (h : Tame P m) (hf : ∀ a, Tame P (f a)) : Tame P (m >>= f) := Tame.bind h hf
theorem Tame.still {m : Sem α} (r : α) (h : ∀ w es, m.runT P w es = (.ok r w, es)) : Tame P m := .same m (.pure r) (fun w es => by rw [h]; rfl) (.pure r)
theorem YR (s : String) : Tame P (stuck s : Sem α) := .halt _
theorem JN (s : Unsupported) : Tame P (unsupported s : Sem α) := .halt _
theorem Qje : Tame P program := .program _ (.pure _)
theorem Qyw (a : Addr) : Tame P (load a) := .load _ _ fun v => .pure v
theorem QPf (a : Addr) (v : Value) : Tame P (store a v) := .store _ _ _ (.pure ())
theorem Qjb (q : Question) : Tame P (choose q) := .choose _ _ fun n => .pure n
theorem Qzc (o : Obj) (h : Obj.still o = true) : Tame P (newObj o) := .new _ _ h fun n => .pure n
theorem Qyr (n : Nat) : Tame P (askRoom n) := by
  unfold askRoom; split
  · exact .room _ (.pure ())
  · exact .pure ()
theorem Qcr (t : TypeId) : Tame P (typeInfo t) := .bnd Qje fun p => by
  split
  · exact .pure _
  · exact YR _
theorem JM (t : TypeId) : Tame P (underlying t) := .bnd Qje fun p => by
  split
  · exact .pure _
  · exact YR _
theorem Qfl (t : TypeId) : Tame P (zeroValue t) := .bnd (Qcr t) fun p => by
  split
  · exact .pure _
  · exact JN _
theorem Jn (t : TypeId) : Tame P (sizeOf t) := .bnd (Qcr t) fun p => .pure _
theorem Qyv (t : TypeId) : Tame P (isAgg t) := .bnd (JM t) fun p => by
  split <;> exact .pure _
theorem Qyz (a : Addr) : ∀ (n i : Nat) (acc : Array Value), Tame P (loadCellsFrom a i n acc)
  | 0, _, _ => .pure _
  | n + 1, i, acc => .bnd (Qyw _) fun v => Qyz a n (i + 1) (acc.push v)
theorem Qyy (a : Addr) (n : Nat) : Tame P (loadCells a n) := Qyz a n 0 #[]
theorem Qjf (a : Addr) : ∀ (vs : List Value) (i : Nat), Tame P (storeCells a vs i)
  | [], _ => by unfold storeCells; exact .pure _
  | v :: vs, i => by unfold storeCells; exact .bnd (QPf _ _) fun _ => Qjf a vs (i + 1)
theorem Qza (t : TypeId) (a : Addr) : Tame P (loadVar t a) := .bnd (Qyv t) fun b => by
  split
  · exact .bnd (Jn t) fun n => .bnd (Qyy a n) fun _ => .pure _
  · exact Qyw a
theorem QPg (t : TypeId) (a : Addr) (v : Value) : Tame P (storeVar t a v) := .bnd (Jn t) fun n => by
  split
  · exact .bnd (YR _) fun _ => Qjf _ _ _
  · exact Qjf _ _ _
theorem Qjd (t : TypeId) (c : Array Value) : Tame P (newRow t c) := .bnd (Qzc _ rfl) fun n => .pure _
theorem Qos (t : TypeId) (v : Value) : Tame P (newVar t v) := Qjd t _
theorem Qjg (v : Value) : Tame P (Instr.sureAddr v) := by
  unfold Instr.sureAddr; split
  · exact .pure _
  · exact YR _
theorem Qyx (t : TypeId) (v : Value) : Tame P (Instr.loadAt t v) := .bnd (Qjg v) fun a => Qza t a
theorem Qze (t : TypeId) (v x : Value) : Tame P (Instr.storeAt t v x) := .bnd (Qjg v) fun a => QPg t a x
theorem QOo (t : TypeId) : Tame P (Instr.alloc t true (.tuple #[])) := .bnd (Qfl t) fun z => .bnd (Qos t z) fun _ => .pure _
theorem QOr (t : TypeId) (v : Value) : Tame P (Instr.box t v) := .bnd (Qos t v) fun _ => .pure _
end
end Go.Gw
