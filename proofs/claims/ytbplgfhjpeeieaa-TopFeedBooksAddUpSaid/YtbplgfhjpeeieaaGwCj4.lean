/- Goroutines: which operations are tame. No condition. -/
import Derived.Test.YtbplgfhjpeeieaaGwCj3
set_option linter.unusedVariables false
set_option linter.unusedSimpArgs false
set_option linter.unusedSectionVars false
set_option linter.unusedVariables false
namespace Go.Gw
open Go Go.Conc
section
variable {P : Program} {α β : Type}
theorem Tame.bnd {m : Sem α} {f : α → Sem β} (h : Tame P m) (hf : ∀ a, Tame P (f a)) : Tame P (m >>= f) := Tame.bind h hf
theorem Tame.still {m : Sem α} (r : α) (h : ∀ w es, m.runT P w es = (.ok r w, es)) : Tame P m := .same m (.pure r) (fun w es => by rw [h]; rfl) (.pure r)
theorem YX (s : String) : Tame P (stuck s : Sem α) := .halt _
theorem Qak (s : Unsupported) : Tame P (unsupported s : Sem α) := .halt _
theorem Qlc : Tame P program := .program _ (.pure _)
theorem Qyh (a : Addr) : Tame P (load a) := .load _ _ fun v => .pure v
theorem QOl (a : Addr) (v : Value) : Tame P (store a v) := .store _ _ _ (.pure ())
theorem Qkz (q : Question) : Tame P (choose q) := .choose _ _ fun n => .pure n
theorem Qyn (o : Obj) (h : Obj.still o = true) : Tame P (newObj o) := .new _ _ h fun n => .pure n
theorem Qyb (n : Nat) : Tame P (askRoom n) := by
  unfold askRoom; split
  · exact .room _ (.pure ())
  · exact .pure ()
theorem Qep (t : TypeId) : Tame P (typeInfo t) := .bnd Qlc fun p => by
  split
  · exact .pure _
  · exact YX _
theorem Qaj (t : TypeId) : Tame P (underlying t) := .bnd Qlc fun p => by
  split
  · exact .pure _
  · exact YX _
theorem Qhf (t : TypeId) : Tame P (zeroValue t) := .bnd (Qep t) fun p => by
  split
  · exact .pure _
  · exact Qak _
theorem JF (t : TypeId) : Tame P (sizeOf t) := .bnd (Qep t) fun p => .pure _
theorem Qyg (t : TypeId) : Tame P (isAgg t) := .bnd (Qaj t) fun p => by
  split <;> exact .pure _
theorem Qyk (a : Addr) : ∀ (n i : Nat) (acc : Array Value), Tame P (loadCellsFrom a i n acc)
  | 0, _, _ => .pure _
  | n + 1, i, acc => .bnd (Qyh _) fun v => Qyk a n (i + 1) (acc.push v)
theorem Qyj (a : Addr) (n : Nat) : Tame P (loadCells a n) := Qyk a n 0 #[]
theorem Qld (a : Addr) : ∀ (vs : List Value) (i : Nat), Tame P (storeCells a vs i)
  | [], _ => by unfold storeCells; exact .pure _
  | v :: vs, i => by unfold storeCells; exact .bnd (QOl _ _) fun _ => Qld a vs (i + 1)
theorem Qyl (t : TypeId) (a : Addr) : Tame P (loadVar t a) := .bnd (Qyg t) fun b => by
  split
  · exact .bnd (JF t) fun n => .bnd (Qyj a n) fun _ => .pure _
  · exact Qyh a
theorem QOm (t : TypeId) (a : Addr) (v : Value) : Tame P (storeVar t a v) := .bnd (JF t) fun n => by
  split
  · exact .bnd (YX _) fun _ => Qld _ _ _
  · exact Qld _ _ _
theorem Qlb (t : TypeId) (c : Array Value) : Tame P (newRow t c) := .bnd (Qyn _ rfl) fun n => .pure _
theorem Qpe (t : TypeId) (v : Value) : Tame P (newVar t v) := Qlb t _
theorem Qle (v : Value) : Tame P (Instr.sureAddr v) := by
  unfold Instr.sureAddr; split
  · exact .pure _
  · exact YX _
theorem Qyi (t : TypeId) (v : Value) : Tame P (Instr.loadAt t v) := .bnd (Qle v) fun a => Qyl t a
theorem Qyp (t : TypeId) (v x : Value) : Tame P (Instr.storeAt t v x) := .bnd (Qle v) fun a => QOm t a x
theorem QNw (t : TypeId) : Tame P (Instr.alloc t true (.tuple #[])) := .bnd (Qhf t) fun z => .bnd (Qpe t z) fun _ => .pure _
theorem QNz (t : TypeId) (v : Value) : Tame P (Instr.box t v) := .bnd (Qpe t v) fun _ => .pure _
end
end Go.Gw
