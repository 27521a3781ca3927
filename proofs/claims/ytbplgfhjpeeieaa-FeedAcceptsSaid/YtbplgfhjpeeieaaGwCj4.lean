/- Goroutines: which operations are tame. No condition. -/
import Derived.Test.YtbplgfhjpeeieaaGwCj3
set_option linter.unusedVariables false
set_option linter.unusedSimpArgs false
set_option linter.unusedSectionVars false
set_option linter.unusedVariables false
namespace Go.Gw
open Go Go.Conc
section
variable {P : Program} {α β : Type}
theorem Tame.bnd {m : Sem α} {f : α → Sem β} (h : Tame P m) (hf : ∀ a, Tame P (f a)) : Tame P (m >>= f) := Tame.bind h hf
theorem Tame.still {m : Sem α} (r : α) (h : ∀ w es, m.runT P w es = (.ok r w, es)) : Tame P m := .same m (.pure r) (fun w es => by rw [h]; rfl) (.pure r)
theorem YP (s : String) : Tame P (stuck s : Sem α) := .halt _
theorem JM (s : Unsupported) : Tame P (unsupported s : Sem α) := .halt _
theorem Qix : Tame P program := .program _ (.pure _)
theorem Qxy (a : Addr) : Tame P (load a) := .load _ _ fun v => .pure v
theorem QOj (a : Addr) (v : Value) : Tame P (store a v) := .store _ _ _ (.pure ())
theorem Qiu (q : Question) : Tame P (choose q) := .choose _ _ fun n => .pure n
theorem Qye (o : Obj) (h : Obj.still o = true) : Tame P (newObj o) := .new _ _ h fun n => .pure n
theorem Qxt (n : Nat) : Tame P (askRoom n) := by
  unfold askRoom; split
  · exact .room _ (.pure ())
  · exact .pure ()
theorem Qcn (t : TypeId) : Tame P (typeInfo t) := .bnd Qix fun p => by
  split
  · exact .pure _
  · exact YP _
theorem JL (t : TypeId) : Tame P (underlying t) := .bnd Qix fun p => by
  split
  · exact .pure _
  · exact YP _
theorem Qez (t : TypeId) : Tame P (zeroValue t) := .bnd (Qcn t) fun p => by
  split
  · exact .pure _
  · exact JM _
theorem Je (t : TypeId) : Tame P (sizeOf t) := .bnd (Qcn t) fun p => .pure _
theorem Qxx (t : TypeId) : Tame P (isAgg t) := .bnd (JL t) fun p => by
  split <;> exact .pure _
theorem Qyb (a : Addr) : ∀ (n i : Nat) (acc : Array Value), Tame P (loadCellsFrom a i n acc)
  | 0, _, _ => .pure _
  | n + 1, i, acc => .bnd (Qxy _) fun v => Qyb a n (i + 1) (acc.push v)
theorem Qya (a : Addr) (n : Nat) : Tame P (loadCells a n) := Qyb a n 0 #[]
theorem Qiy (a : Addr) : ∀ (vs : List Value) (i : Nat), Tame P (storeCells a vs i)
  | [], _ => by unfold storeCells; exact .pure _
  | v :: vs, i => by unfold storeCells; exact .bnd (QOj _ _) fun _ => Qiy a vs (i + 1)
theorem Qyc (t : TypeId) (a : Addr) : Tame P (loadVar t a) := .bnd (Qxx t) fun b => by
  split
  · exact .bnd (Je t) fun n => .bnd (Qya a n) fun _ => .pure _
  · exact Qxy a
theorem QOk (t : TypeId) (a : Addr) (v : Value) : Tame P (storeVar t a v) := .bnd (Je t) fun n => by
  split
  · exact .bnd (YP _) fun _ => Qiy _ _ _
  · exact Qiy _ _ _
theorem Qiw (t : TypeId) (c : Array Value) : Tame P (newRow t c) := .bnd (Qye _ rfl) fun n => .pure _
theorem Qob (t : TypeId) (v : Value) : Tame P (newVar t v) := Qiw t _
theorem Qiz (v : Value) : Tame P (Instr.sureAddr v) := by
  unfold Instr.sureAddr; split
  · exact .pure _
  · exact YP _
theorem Qxz (t : TypeId) (v : Value) : Tame P (Instr.loadAt t v) := .bnd (Qiz v) fun a => Qyc t a
theorem Qyg (t : TypeId) (v x : Value) : Tame P (Instr.storeAt t v x) := .bnd (Qiz v) fun a => QOk t a x
theorem QNs (t : TypeId) : Tame P (Instr.alloc t true (.tuple #[])) := .bnd (Qez t) fun z => .bnd (Qob t z) fun _ => .pure _
theorem QNv (t : TypeId) (v : Value) : Tame P (Instr.box t v) := .bnd (Qob t v) fun _ => .pure _
end
end Go.Gw
