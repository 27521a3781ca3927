/- Goroutines: which operations are tame. No condition. -/
import Derived.Test.YtbplgfhjpeeieaaGwCj3
set_option linter.unusedVariables false
set_option linter.unusedSimpArgs false
set_option linter.unusedSectionVars false
set_option linter.unusedVariables false
namespace Go.Gw
open Go Go.Conc
section
variable {P : Program} {α β : Type}
theorem Tame.bnd {m : Sem α} {f : α → Sem β} (h : Tame P m) (hf : ∀ a, Tame P (f a)) : Tame P (m >>= f) := Tame.bind h hf
theorem Tame.still {m : Sem α} (r : α) (h : ∀ w es, m.runT P w es = (.ok r w, es)) : Tame P m := .same m (.pure r) (fun w es => by rw [h]; rfl) (.pure r)
theorem Y1 (s : String) : Tame P (stuck s : Sem α) := .halt _
theorem J5 (s : Unsupported) : Tame P (unsupported s : Sem α) := .halt _
theorem Qkh : Tame P program := .program _ (.pure _)
theorem Qzh (a : Addr) : Tame P (load a) := .load _ _ fun v => .pure v
theorem QQo (a : Addr) (v : Value) : Tame P (store a v) := .store _ _ _ (.pure ())
theorem Qke (q : Question) : Tame P (choose q) := .choose _ _ fun n => .pure n
theorem Qzn (o : Obj) (h : Obj.still o = true) : Tame P (newObj o) := .new _ _ h fun n => .pure n
theorem Qzc (n : Nat) : Tame P (askRoom n) := by
  unfold askRoom; split
  · exact .room _ (.pure ())
  · exact .pure ()
theorem Qdr (t : TypeId) : Tame P (typeInfo t) := .bnd Qkh fun p => by
  split
  · exact .pure _
  · exact Y1 _
theorem J4 (t : TypeId) : Tame P (underlying t) := .bnd Qkh fun p => by
  split
  · exact .pure _
  · exact Y1 _
theorem Qgl (t : TypeId) : Tame P (zeroValue t) := .bnd (Qdr t) fun p => by
  split
  · exact .pure _
  · exact J5 _
theorem Jz (t : TypeId) : Tame P (sizeOf t) := .bnd (Qdr t) fun p => .pure _
theorem Qzg (t : TypeId) : Tame P (isAgg t) := .bnd (J4 t) fun p => by
  split <;> exact .pure _
theorem Qzk (a : Addr) : ∀ (n i : Nat) (acc : Array Value), Tame P (loadCellsFrom a i n acc)
  | 0, _, _ => .pure _
  | n + 1, i, acc => .bnd (Qzh _) fun v => Qzk a n (i + 1) (acc.push v)
theorem Qzj (a : Addr) (n : Nat) : Tame P (loadCells a n) := Qzk a n 0 #[]
theorem Qki (a : Addr) : ∀ (vs : List Value) (i : Nat), Tame P (storeCells a vs i)
  | [], _ => by unfold storeCells; exact .pure _
  | v :: vs, i => by unfold storeCells; exact .bnd (QQo _ _) fun _ => Qki a vs (i + 1)
theorem Qzl (t : TypeId) (a : Addr) : Tame P (loadVar t a) := .bnd (Qzg t) fun b => by
  split
  · exact .bnd (Jz t) fun n => .bnd (Qzj a n) fun _ => .pure _
  · exact Qzh a
theorem QQp (t : TypeId) (a : Addr) (v : Value) : Tame P (storeVar t a v) := .bnd (Jz t) fun n => by
  split
  · exact .bnd (Y1 _) fun _ => Qki _ _ _
  · exact Qki _ _ _
theorem Qkg (t : TypeId) (c : Array Value) : Tame P (newRow t c) := .bnd (Qzn _ rfl) fun n => .pure _
theorem Qpn (t : TypeId) (v : Value) : Tame P (newVar t v) := Qkg t _
theorem Qkj (v : Value) : Tame P (Instr.sureAddr v) := by
  unfold Instr.sureAddr; split
  · exact .pure _
  · exact Y1 _
theorem Qzi (t : TypeId) (v : Value) : Tame P (Instr.loadAt t v) := .bnd (Qkj v) fun a => Qzl t a
theorem Qzp (t : TypeId) (v x : Value) : Tame P (Instr.storeAt t v x) := .bnd (Qkj v) fun a => QQp t a x
theorem QPx (t : TypeId) : Tame P (Instr.alloc t true (.tuple #[])) := .bnd (Qgl t) fun z => .bnd (Qpn t z) fun _ => .pure _
theorem QQa (t : TypeId) (v : Value) : Tame P (Instr.box t v) := .bnd (Qpn t v) fun _ => .pure _
end
end Go.Gw
