/- Goroutines: which operations are tame. No condition. -/
import Derived.Test.YtbplgfhjpeeieaaGwCj3
set_option linter.unusedVariables false
set_option linter.unusedSimpArgs false
set_option linter.unusedSectionVars false
set_option linter.unusedVariables false
namespace Go.Gw
open Go Go.Conc
section
variable {P : Program} {α β : Type}
theorem Tame.bnd {m : Sem α} {f : α → Sem β} (h : Tame P m) (hf : ∀ a, Tame P (f a)) : Tame P (m >>= f) := Tame.bind h hf
theorem Tame.still {m : Sem α} (r : α) (h : ∀ w es, m.runT P w es = (.ok r w, es)) : Tame P m := .same m (.pure r) (fun w es => by rw [h]; rfl) (.pure r)
theorem Yu (s : String) : Tame P (stuck s : Sem α) := .halt _
theorem ZZ (s : Unsupported) : Tame P (unsupported s : Sem α) := .halt _
theorem Qfu : Tame P program := .program _ (.pure _)
theorem Quc (a : Addr) : Tame P (load a) := .load _ _ fun v => .pure v
theorem QIp (a : Addr) (v : Value) : Tame P (store a v) := .store _ _ _ (.pure ())
theorem Qfr (q : Question) : Tame P (choose q) := .choose _ _ fun n => .pure n
theorem Qui (o : Obj) (h : Obj.still o = true) : Tame P (newObj o) := .new _ _ h fun n => .pure n
theorem Qtx (n : Nat) : Tame P (askRoom n) := by
  unfold askRoom; split
  · exact .room _ (.pure ())
  · exact .pure ()
theorem Qai (t : TypeId) : Tame P (typeInfo t) := .bnd Qfu fun p => by
  split
  · exact .pure _
  · exact Yu _
theorem ZY (t : TypeId) : Tame P (underlying t) := .bnd Qfu fun p => by
  split
  · exact .pure _
  · exact Yu _
theorem Qcg (t : TypeId) : Tame P (zeroValue t) := .bnd (Qai t) fun p => by
  split
  · exact .pure _
  · exact ZZ _
theorem ZA (t : TypeId) : Tame P (sizeOf t) := .bnd (Qai t) fun p => .pure _
theorem Qub (t : TypeId) : Tame P (isAgg t) := .bnd (ZY t) fun p => by
  split <;> exact .pure _
theorem Quf (a : Addr) : ∀ (n i : Nat) (acc : Array Value), Tame P (loadCellsFrom a i n acc)
  | 0, _, _ => .pure _
  | n + 1, i, acc => .bnd (Quc _) fun v => Quf a n (i + 1) (acc.push v)
theorem Que (a : Addr) (n : Nat) : Tame P (loadCells a n) := Quf a n 0 #[]
theorem Qfv (a : Addr) : ∀ (vs : List Value) (i : Nat), Tame P (storeCells a vs i)
  | [], _ => by unfold storeCells; exact .pure _
  | v :: vs, i => by unfold storeCells; exact .bnd (QIp _ _) fun _ => Qfv a vs (i + 1)
theorem Qug (t : TypeId) (a : Addr) : Tame P (loadVar t a) := .bnd (Qub t) fun b => by
  split
  · exact .bnd (ZA t) fun n => .bnd (Que a n) fun _ => .pure _
  · exact Quc a
theorem QIq (t : TypeId) (a : Addr) (v : Value) : Tame P (storeVar t a v) := .bnd (ZA t) fun n => by
  split
  · exact .bnd (Yu _) fun _ => Qfv _ _ _
  · exact Qfv _ _ _
theorem Qft (t : TypeId) (c : Array Value) : Tame P (newRow t c) := .bnd (Qui _ rfl) fun n => .pure _
theorem Qkp (t : TypeId) (v : Value) : Tame P (newVar t v) := Qft t _
theorem Qfw (v : Value) : Tame P (Instr.sureAddr v) := by
  unfold Instr.sureAddr; split
  · exact .pure _
  · exact Yu _
theorem Qud (t : TypeId) (v : Value) : Tame P (Instr.loadAt t v) := .bnd (Qfw v) fun a => Qug t a
theorem Quk (t : TypeId) (v x : Value) : Tame P (Instr.storeAt t v x) := .bnd (Qfw v) fun a => QIq t a x
theorem QHy (t : TypeId) : Tame P (Instr.alloc t true (.tuple #[])) := .bnd (Qcg t) fun z => .bnd (Qkp t z) fun _ => .pure _
theorem QIb (t : TypeId) (v : Value) : Tame P (Instr.box t v) := .bnd (Qkp t v) fun _ => .pure _
end
end Go.Gw
