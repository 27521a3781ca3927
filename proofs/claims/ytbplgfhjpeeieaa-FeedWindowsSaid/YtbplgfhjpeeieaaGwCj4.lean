/- Goroutines: which operations are tame. No condition. -/
import Derived.Test.YtbplgfhjpeeieaaGwCj3
set_option linter.unusedVariables false
set_option linter.unusedSimpArgs false
set_option linter.unusedSectionVars false
set_option linter.unusedVariables false
namespace Go.Gw
open Go Go.Conc
section
variable {P : Program} {α β : Type}
theorem Tame.bnd {m : Sem α} {f : α → Sem β} (h : Tame P m) (hf : ∀ a, Tame P (f a)) : Tame P (m >>= f) := Tame.bind h hf
theorem Tame.still {m : Sem α} (r : α) (h : ∀ w es, m.runT P w es = (.ok r w, es)) : Tame P m := .same m (.pure r) (fun w es => by rw [h]; rfl) (.pure r)
theorem Yz (s : String) : Tame P (stuck s : Sem α) := .halt _
theorem JG (s : Unsupported) : Tame P (unsupported s : Sem α) := .halt _
theorem Qiq : Tame P program := .program _ (.pure _)
theorem Qyo (a : Addr) : Tame P (load a) := .load _ _ fun v => .pure v
theorem QOl (a : Addr) (v : Value) : Tame P (store a v) := .store _ _ _ (.pure ())
theorem Qin (q : Question) : Tame P (choose q) := .choose _ _ fun n => .pure n
theorem Qyu (o : Obj) (h : Obj.still o = true) : Tame P (newObj o) := .new _ _ h fun n => .pure n
theorem Qyj (n : Nat) : Tame P (askRoom n) := by
  unfold askRoom; split
  · exact .room _ (.pure ())
  · exact .pure ()
theorem Qbz (t : TypeId) : Tame P (typeInfo t) := .bnd Qiq fun p => by
  split
  · exact .pure _
  · exact Yz _
theorem JF (t : TypeId) : Tame P (underlying t) := .bnd Qiq fun p => by
  split
  · exact .pure _
  · exact Yz _
theorem Qem (t : TypeId) : Tame P (zeroValue t) := .bnd (Qbz t) fun p => by
  split
  · exact .pure _
  · exact JG _
theorem Z4 (t : TypeId) : Tame P (sizeOf t) := .bnd (Qbz t) fun p => .pure _
theorem Qyn (t : TypeId) : Tame P (isAgg t) := .bnd (JF t) fun p => by
  split <;> exact .pure _
theorem Qyr (a : Addr) : ∀ (n i : Nat) (acc : Array Value), Tame P (loadCellsFrom a i n acc)
  | 0, _, _ => .pure _
  | n + 1, i, acc => .bnd (Qyo _) fun v => Qyr a n (i + 1) (acc.push v)
theorem Qyq (a : Addr) (n : Nat) : Tame P (loadCells a n) := Qyr a n 0 #[]
theorem Qir (a : Addr) : ∀ (vs : List Value) (i : Nat), Tame P (storeCells a vs i)
  | [], _ => by unfold storeCells; exact .pure _
  | v :: vs, i => by unfold storeCells; exact .bnd (QOl _ _) fun _ => Qir a vs (i + 1)
theorem Qys (t : TypeId) (a : Addr) : Tame P (loadVar t a) := .bnd (Qyn t) fun b => by
  split
  · exact .bnd (Z4 t) fun n => .bnd (Qyq a n) fun _ => .pure _
  · exact Qyo a
theorem QOm (t : TypeId) (a : Addr) (v : Value) : Tame P (storeVar t a v) := .bnd (Z4 t) fun n => by
  split
  · exact .bnd (Yz _) fun _ => Qir _ _ _
  · exact Qir _ _ _
theorem Qip (t : TypeId) (c : Array Value) : Tame P (newRow t c) := .bnd (Qyu _ rfl) fun n => .pure _
theorem Qnu (t : TypeId) (v : Value) : Tame P (newVar t v) := Qip t _
theorem Qis (v : Value) : Tame P (Instr.sureAddr v) := by
  unfold Instr.sureAddr; split
  · exact .pure _
  · exact Yz _
theorem Qyp (t : TypeId) (v : Value) : Tame P (Instr.loadAt t v) := .bnd (Qis v) fun a => Qys t a
theorem Qyw (t : TypeId) (v x : Value) : Tame P (Instr.storeAt t v x) := .bnd (Qis v) fun a => QOm t a x
theorem QNu (t : TypeId) : Tame P (Instr.alloc t true (.tuple #[])) := .bnd (Qem t) fun z => .bnd (Qnu t z) fun _ => .pure _
theorem QNx (t : TypeId) (v : Value) : Tame P (Instr.box t v) := .bnd (Qnu t v) fun _ => .pure _
end
end Go.Gw
