/- Goroutines: which operations are tame. No condition. -/
import Derived.Test.YtbplgfhjpeeieaaGwCj3
set_option linter.unusedVariables false
set_option linter.unusedSimpArgs false
set_option linter.unusedSectionVars false
set_option linter.unusedVariables false
namespace Go.Gw
open Go Go.Conc
section
variable {P : Program} {α β : Type}
theorem Tame.bnd {m : Sem α} {f : α → Sem β} (h : Tame P m) (hf : ∀ a, Tame P (f a)) : Tame P (m >>= f) := Tame.bind h hf
theorem Tame.still {m : Sem α} (r : α) (h : ∀ w es, m.runT P w es = (.ok r w, es)) : Tame P m := .same m (.pure r) (fun w es => by rw [h]; rfl) (.pure r)
theorem YN (s : String) : Tame P (stuck s : Sem α) := .halt _
theorem JL (s : Unsupported) : Tame P (unsupported s : Sem α) := .halt _
theorem Qjb : Tame P program := .program _ (.pure _)
theorem Qxy (a : Addr) : Tame P (load a) := .load _ _ fun v => .pure v
theorem QOt (a : Addr) (v : Value) : Tame P (store a v) := .store _ _ _ (.pure ())
theorem Qiy (q : Question) : Tame P (choose q) := .choose _ _ fun n => .pure n
theorem Qye (o : Obj) (h : Obj.still o = true) : Tame P (newObj o) := .new _ _ h fun n => .pure n
theorem Qxt (n : Nat) : Tame P (askRoom n) := by
  unfold askRoom; split
  · exact .room _ (.pure ())
  · exact .pure ()
theorem Qcg (t : TypeId) : Tame P (typeInfo t) := .bnd Qjb fun p => by
  split
  · exact .pure _
  · exact YN _
theorem JK (t : TypeId) : Tame P (underlying t) := .bnd Qjb fun p => by
  split
  · exact .pure _
  · exact YN _
theorem Qez (t : TypeId) : Tame P (zeroValue t) := .bnd (Qcg t) fun p => by
  split
  · exact .pure _
  · exact JL _
theorem Ja (t : TypeId) : Tame P (sizeOf t) := .bnd (Qcg t) fun p => .pure _
theorem Qxx (t : TypeId) : Tame P (isAgg t) := .bnd (JK t) fun p => by
  split <;> exact .pure _
theorem Qyb (a : Addr) : ∀ (n i : Nat) (acc : Array Value), Tame P (loadCellsFrom a i n acc)
  | 0, _, _ => .pure _
  | n + 1, i, acc => .bnd (Qxy _) fun v => Qyb a n (i + 1) (acc.push v)
theorem Qya (a : Addr) (n : Nat) : Tame P (loadCells a n) := Qyb a n 0 #[]
theorem Qjc (a : Addr) : ∀ (vs : List Value) (i : Nat), Tame P (storeCells a vs i)
  | [], _ => by unfold storeCells; exact .pure _
  | v :: vs, i => by unfold storeCells; exact .bnd (QOt _ _) fun _ => Qjc a vs (i + 1)
theorem Qyc (t : TypeId) (a : Addr) : Tame P (loadVar t a) := .bnd (Qxx t) fun b => by
  split
  · exact .bnd (Ja t) fun n => .bnd (Qya a n) fun _ => .pure _
  · exact Qxy a
theorem QOu (t : TypeId) (a : Addr) (v : Value) : Tame P (storeVar t a v) := .bnd (Ja t) fun n => by
  split
  · exact .bnd (YN _) fun _ => Qjc _ _ _
  · exact Qjc _ _ _
theorem Qja (t : TypeId) (c : Array Value) : Tame P (newRow t c) := .bnd (Qye _ rfl) fun n => .pure _
theorem Qoi (t : TypeId) (v : Value) : Tame P (newVar t v) := Qja t _
theorem Qjd (v : Value) : Tame P (Instr.sureAddr v) := by
  unfold Instr.sureAddr; split
  · exact .pure _
  · exact YN _
theorem Qxz (t : TypeId) (v : Value) : Tame P (Instr.loadAt t v) := .bnd (Qjd v) fun a => Qyc t a
theorem Qyg (t : TypeId) (v x : Value) : Tame P (Instr.storeAt t v x) := .bnd (Qjd v) fun a => QOu t a x
theorem QOc (t : TypeId) : Tame P (Instr.alloc t true (.tuple #[])) := .bnd (Qez t) fun z => .bnd (Qoi t z) fun _ => .pure _
theorem QOf (t : TypeId) (v : Value) : Tame P (Instr.box t v) := .bnd (Qoi t v) fun _ => .pure _
end
end Go.Gw
