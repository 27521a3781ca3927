/- Goroutines: which operations are tame. No condition. -/
import Derived.Test.YtbplgfhjpeeieaaGwCj3
set_option linter.unusedVariables false
set_option linter.unusedSimpArgs false
set_option linter.unusedSectionVars false
set_option linter.unusedVariables false
namespace Go.Gw
open Go Go.Conc
section
variable {P : Program} {α β : Type}
theorem Tame.bnd {m : Sem α} {f : α → Sem β} (h : Tame P m) (hf : ∀ a, Tame P (f a)) : Tame P (m >>= f) := Tame.bind h hf
theorem Tame.pur (a : α) : Tame P (Pure.pure a : Sem α) := .pure a
theorem Tame.still {m : Sem α} (r : α) (h : ∀ w es, m.runT P w es = (.ok r w, es)) : Tame P m := .same m (.pure r) (fun w es => by rw [h]; rfl) (.pure r)
theorem XO (s : String) : Tame P (stuck s : Sem α) := .halt _
theorem ZA (s : Unsupported) : Tame P (unsupported s : Sem α) := .halt _
theorem QKc (s : Value) : Tame P (goPanic s : Sem α) := .halt _
theorem Qey : Tame P program := .program _ (.pure _)
theorem Qtz (a : Addr) : Tame P (load a) := .load _ _ fun v => .pure v
theorem QHu (a : Addr) (v : Value) : Tame P (store a v) := .store _ _ _ (.pure ())
theorem Qeu (q : Question) : Tame P (choose q) := .choose _ _ fun n => .pure n
theorem Quf (o : Obj) (h : Obj.still o = true) : Tame P (newObj o) := .new _ _ h fun n => .pure n
theorem Qtt (n : Nat) : Tame P (askRoom n) := by
  unfold askRoom; split
  · exact .room _ (.pure ())
  · exact .pure ()
theorem JT (t : TypeId) : Tame P (typeInfo t) := .bnd Qey fun p => by
  split
  · exact .pure _
  · exact XO _
theorem Zk (t : TypeId) : Tame P (underlying t) := .bnd Qey fun p => by
  split
  · exact .pure _
  · exact XO _
theorem Qbd (t : TypeId) : Tame P (zeroValue t) := .bnd (JT t) fun p => by
  split
  · exact .pure _
  · exact ZA _
theorem YY (t : TypeId) : Tame P (sizeOf t) := .bnd (JT t) fun p => .pure _
theorem Qtx (t : TypeId) : Tame P (isAgg t) := .bnd (Zk t) fun p => by
  split <;> exact .pure _
theorem Quc (a : Addr) : ∀ (n i : Nat) (acc : Array Value), Tame P (loadCellsFrom a i n acc)
  | 0, _, _ => .pure _
  | n + 1, i, acc => .bnd (Qtz _) fun v => Quc a n (i + 1) (acc.push v)
theorem Qub (a : Addr) (n : Nat) : Tame P (loadCells a n) := Quc a n 0 #[]
theorem Qbc (a : Addr) : ∀ (vs : List Value) (i : Nat), Tame P (storeCells a vs i)
  | [], _ => by unfold storeCells; exact .pure _
  | v :: vs, i => by unfold storeCells; exact .bnd (QHu _ _) fun _ => Qbc a vs (i + 1)
theorem Qud (t : TypeId) (a : Addr) : Tame P (loadVar t a) := .bnd (Qtx t) fun b => by
  split
  · exact .bnd (YY t) fun n => .bnd (Qub a n) fun _ => .pure _
  · exact Qtz a
theorem QHv (t : TypeId) (a : Addr) (v : Value) : Tame P (storeVar t a v) := .bnd (YY t) fun n => by
  split
  · exact .bnd (XO _) fun _ => Qbc _ _ _
  · exact Qbc _ _ _
theorem Qex (t : TypeId) (c : Array Value) : Tame P (newRow t c) := .bnd (Quf _ rfl) fun n => .pure _
theorem Qjr (t : TypeId) (v : Value) : Tame P (newVar t v) := Qex t _
theorem Qez (v : Value) : Tame P (Instr.sureAddr v) := by
  unfold Instr.sureAddr; split
  · exact .pure _
  · exact XO _
theorem Qua (t : TypeId) (v : Value) : Tame P (Instr.loadAt t v) := .bnd (Qez v) fun a => Qud t a
theorem Quh (t : TypeId) (v x : Value) : Tame P (Instr.storeAt t v x) := .bnd (Qez v) fun a => QHv t a x
theorem QHg (t : TypeId) : Tame P (Instr.alloc t true (.tuple #[])) := .bnd (Qbd t) fun z => .bnd (Qjr t z) fun _ => .pure _
theorem QHj (t : TypeId) (v : Value) : Tame P (Instr.box t v) := .bnd (Qjr t v) fun _ => .pure _
theorem QKa {v : Value} (h : v ≠ .pointer none) : Tame P (asAddr v) := by
  unfold asAddr; split
  · exact .pure _
  · exact absurd rfl h
  · exact XO _
theorem QJq {m : Sem α} (f : α → Sem β) (h : ∀ w es r w', (m.runT P w es).1 ≠ .ok r w') : ∀ w es r w', ((m >>= f).runT P w es).1 ≠ .ok r w' := fun w es r w' => by
  rw [show (m >>= f) = m.bind f from rfl, Go.Sem.runT_bind']
  have := h w es
  generalize hx : m.runT P w es = x at this ⊢
  obtain ⟨x1, x2⟩ := x
  cases x1 with
  | ok a w1 => exact absurd rfl (this a w1)
  | halt h w1 => simp
end
end Go.Gw
