/- Goroutines: which operations are tame. No condition. -/
import Derived.Test.YtbplgfhjpeeieaaGwCj3
set_option linter.unusedVariables false
set_option linter.unusedSimpArgs false
set_option linter.unusedSectionVars false
set_option linter.unusedVariables false
namespace Go.Gw
open Go Go.Conc
section
variable {P : Program} {α β : Type}
theorem Tame.bnd {m : Sem α} {f : α → Sem β} (h : Tame P m) (hf : ∀ a, Tame P (f a)) : Tame P (m >>= f) := Tame.bind h hf
theorem Tame.still {m : Sem α} (r : α) (h : ∀ w es, m.runT P w es = (.ok r w, es)) : Tame P m := .same m (.pure r) (fun w es => by rw [h]; rfl) (.pure r)
theorem YA (s : String) : Tame P (stuck s : Sem α) := .halt _
theorem Js (s : Unsupported) : Tame P (unsupported s : Sem α) := .halt _
theorem Qhl : Tame P program := .program _ (.pure _)
theorem Qwn (a : Addr) : Tame P (load a) := .load _ _ fun v => .pure v
theorem QMs (a : Addr) (v : Value) : Tame P (store a v) := .store _ _ _ (.pure ())
theorem Qhi (q : Question) : Tame P (choose q) := .choose _ _ fun n => .pure n
theorem Qwt (o : Obj) (h : Obj.still o = true) : Tame P (newObj o) := .new _ _ h fun n => .pure n
theorem Qwj (n : Nat) : Tame P (askRoom n) := by
  unfold askRoom; split
  · exact .room _ (.pure ())
  · exact .pure ()
theorem Qbi (t : TypeId) : Tame P (typeInfo t) := .bnd Qhl fun p => by
  split
  · exact .pure _
  · exact YA _
theorem Jr (t : TypeId) : Tame P (underlying t) := .bnd Qhl fun p => by
  split
  · exact .pure _
  · exact YA _
theorem Qdn (t : TypeId) : Tame P (zeroValue t) := .bnd (Qbi t) fun p => by
  split
  · exact .pure _
  · exact Js _
theorem ZS (t : TypeId) : Tame P (sizeOf t) := .bnd (Qbi t) fun p => .pure _
theorem Qwm (t : TypeId) : Tame P (isAgg t) := .bnd (Jr t) fun p => by
  split <;> exact .pure _
theorem Qwq (a : Addr) : ∀ (n i : Nat) (acc : Array Value), Tame P (loadCellsFrom a i n acc)
  | 0, _, _ => .pure _
  | n + 1, i, acc => .bnd (Qwn _) fun v => Qwq a n (i + 1) (acc.push v)
theorem Qwp (a : Addr) (n : Nat) : Tame P (loadCells a n) := Qwq a n 0 #[]
theorem Qhm (a : Addr) : ∀ (vs : List Value) (i : Nat), Tame P (storeCells a vs i)
  | [], _ => by unfold storeCells; exact .pure _
  | v :: vs, i => by unfold storeCells; exact .bnd (QMs _ _) fun _ => Qhm a vs (i + 1)
theorem Qwr (t : TypeId) (a : Addr) : Tame P (loadVar t a) := .bnd (Qwm t) fun b => by
  split
  · exact .bnd (ZS t) fun n => .bnd (Qwp a n) fun _ => .pure _
  · exact Qwn a
theorem QMt (t : TypeId) (a : Addr) (v : Value) : Tame P (storeVar t a v) := .bnd (ZS t) fun n => by
  split
  · exact .bnd (YA _) fun _ => Qhm _ _ _
  · exact Qhm _ _ _
theorem Qhk (t : TypeId) (c : Array Value) : Tame P (newRow t c) := .bnd (Qwt _ rfl) fun n => .pure _
theorem Qmt (t : TypeId) (v : Value) : Tame P (newVar t v) := Qhk t _
theorem Qhn (v : Value) : Tame P (Instr.sureAddr v) := by
  unfold Instr.sureAddr; split
  · exact .pure _
  · exact YA _
theorem Qwo (t : TypeId) (v : Value) : Tame P (Instr.loadAt t v) := .bnd (Qhn v) fun a => Qwr t a
theorem Qwv (t : TypeId) (v x : Value) : Tame P (Instr.storeAt t v x) := .bnd (Qhn v) fun a => QMt t a x
theorem QMb (t : TypeId) : Tame P (Instr.alloc t true (.tuple #[])) := .bnd (Qdn t) fun z => .bnd (Qmt t z) fun _ => .pure _
theorem QMe (t : TypeId) (v : Value) : Tame P (Instr.box t v) := .bnd (Qmt t v) fun _ => .pure _
end
end Go.Gw
