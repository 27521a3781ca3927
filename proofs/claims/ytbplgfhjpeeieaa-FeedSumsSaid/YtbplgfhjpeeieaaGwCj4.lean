/- Goroutines: which operations are tame. No condition. -/
import Derived.Test.YtbplgfhjpeeieaaGwCj3
set_option linter.unusedVariables false
set_option linter.unusedSimpArgs false
set_option linter.unusedSectionVars false
set_option linter.unusedVariables false
namespace Go.Gw
open Go Go.Conc
section
variable {P : Program} {α β : Type}
theorem Tame.bnd {m : Sem α} {f : α → Sem β} (h : Tame P m) (hf : ∀ a, Tame P (f a)) : Tame P (m >>= f) := Tame.bind h hf
theorem Tame.still {m : Sem α} (r : α) (h : ∀ w es, m.runT P w es = (.ok r w, es)) : Tame P m := .same m (.pure r) (fun w es => by rw [h]; rfl) (.pure r)
theorem YL (s : String) : Tame P (stuck s : Sem α) := .halt _
theorem JA (s : Unsupported) : Tame P (unsupported s : Sem α) := .halt _
theorem Qie : Tame P program := .program _ (.pure _)
theorem Qxc (a : Addr) : Tame P (load a) := .load _ _ fun v => .pure v
theorem QNh (a : Addr) (v : Value) : Tame P (store a v) := .store _ _ _ (.pure ())
theorem Qib (q : Question) : Tame P (choose q) := .choose _ _ fun n => .pure n
theorem Qxi (o : Obj) (h : Obj.still o = true) : Tame P (newObj o) := .new _ _ h fun n => .pure n
theorem Qwx (n : Nat) : Tame P (askRoom n) := by
  unfold askRoom; split
  · exact .room _ (.pure ())
  · exact .pure ()
theorem Qbx (t : TypeId) : Tame P (typeInfo t) := .bnd Qie fun p => by
  split
  · exact .pure _
  · exact YL _
theorem Jz (t : TypeId) : Tame P (underlying t) := .bnd Qie fun p => by
  split
  · exact .pure _
  · exact YL _
theorem Qef (t : TypeId) : Tame P (zeroValue t) := .bnd (Qbx t) fun p => by
  split
  · exact .pure _
  · exact JA _
theorem Z4 (t : TypeId) : Tame P (sizeOf t) := .bnd (Qbx t) fun p => .pure _
theorem Qxb (t : TypeId) : Tame P (isAgg t) := .bnd (Jz t) fun p => by
  split <;> exact .pure _
theorem Qxf (a : Addr) : ∀ (n i : Nat) (acc : Array Value), Tame P (loadCellsFrom a i n acc)
  | 0, _, _ => .pure _
  | n + 1, i, acc => .bnd (Qxc _) fun v => Qxf a n (i + 1) (acc.push v)
theorem Qxe (a : Addr) (n : Nat) : Tame P (loadCells a n) := Qxf a n 0 #[]
theorem Qif (a : Addr) : ∀ (vs : List Value) (i : Nat), Tame P (storeCells a vs i)
  | [], _ => by unfold storeCells; exact .pure _
  | v :: vs, i => by unfold storeCells; exact .bnd (QNh _ _) fun _ => Qif a vs (i + 1)
theorem Qxg (t : TypeId) (a : Addr) : Tame P (loadVar t a) := .bnd (Qxb t) fun b => by
  split
  · exact .bnd (Z4 t) fun n => .bnd (Qxe a n) fun _ => .pure _
  · exact Qxc a
theorem QNi (t : TypeId) (a : Addr) (v : Value) : Tame P (storeVar t a v) := .bnd (Z4 t) fun n => by
  split
  · exact .bnd (YL _) fun _ => Qif _ _ _
  · exact Qif _ _ _
theorem Qid (t : TypeId) (c : Array Value) : Tame P (newRow t c) := .bnd (Qxi _ rfl) fun n => .pure _
theorem Qnl (t : TypeId) (v : Value) : Tame P (newVar t v) := Qid t _
theorem Qig (v : Value) : Tame P (Instr.sureAddr v) := by
  unfold Instr.sureAddr; split
  · exact .pure _
  · exact YL _
theorem Qxd (t : TypeId) (v : Value) : Tame P (Instr.loadAt t v) := .bnd (Qig v) fun a => Qxg t a
theorem Qxk (t : TypeId) (v x : Value) : Tame P (Instr.storeAt t v x) := .bnd (Qig v) fun a => QNi t a x
theorem QMq (t : TypeId) : Tame P (Instr.alloc t true (.tuple #[])) := .bnd (Qef t) fun z => .bnd (Qnl t z) fun _ => .pure _
theorem QMt (t : TypeId) (v : Value) : Tame P (Instr.box t v) := .bnd (Qnl t v) fun _ => .pure _
end
end Go.Gw
