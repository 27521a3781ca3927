/- Goroutines: which operations are tame. No condition. -/
import Derived.Test.YtbplgfhjpeeieaaGwCj3
set_option linter.unusedVariables false
set_option linter.unusedSimpArgs false
set_option linter.unusedSectionVars false
set_option linter.unusedVariables false
namespace Go.Gw
open Go Go.Conc
section
variable {P : Program} {α β : Type}
theorem Tame.bnd {m : Sem α} {f : α → Sem β} (h : Tame P m) (hf : ∀ a, Tame P (f a)) : Tame P (m >>= f) := Tame.bind h hf
theorem Tame.still {m : Sem α} (r : α) (h : ∀ w es, m.runT P w es = (.ok r w, es)) : Tame P m := .same m (.pure r) (fun w es => by rw [h]; rfl) (.pure r)
theorem Y9 (s : String) : Tame P (stuck s : Sem α) := .halt _
theorem Qal (s : Unsupported) : Tame P (unsupported s : Sem α) := .halt _
theorem Qku : Tame P program := .program _ (.pure _)
theorem QAm (a : Addr) : Tame P (load a) := .load _ _ fun v => .pure v
theorem QRk (a : Addr) (v : Value) : Tame P (store a v) := .store _ _ _ (.pure ())
theorem Qkr (q : Question) : Tame P (choose q) := .choose _ _ fun n => .pure n
theorem QAs (o : Obj) (h : Obj.still o = true) : Tame P (newObj o) := .new _ _ h fun n => .pure n
theorem QAg (n : Nat) : Tame P (askRoom n) := by
  unfold askRoom; split
  · exact .room _ (.pure ())
  · exact .pure ()
theorem Qdv (t : TypeId) : Tame P (typeInfo t) := .bnd Qku fun p => by
  split
  · exact .pure _
  · exact Y9 _
theorem Qak (t : TypeId) : Tame P (underlying t) := .bnd Qku fun p => by
  split
  · exact .pure _
  · exact Y9 _
theorem Qgo (t : TypeId) : Tame P (zeroValue t) := .bnd (Qdv t) fun p => by
  split
  · exact .pure _
  · exact Qal _
theorem JV (t : TypeId) : Tame P (sizeOf t) := .bnd (Qdv t) fun p => .pure _
theorem QAl (t : TypeId) : Tame P (isAgg t) := .bnd (Qak t) fun p => by
  split <;> exact .pure _
theorem QAp (a : Addr) : ∀ (n i : Nat) (acc : Array Value), Tame P (loadCellsFrom a i n acc)
  | 0, _, _ => .pure _
  | n + 1, i, acc => .bnd (QAm _) fun v => QAp a n (i + 1) (acc.push v)
theorem QAo (a : Addr) (n : Nat) : Tame P (loadCells a n) := QAp a n 0 #[]
theorem Qkv (a : Addr) : ∀ (vs : List Value) (i : Nat), Tame P (storeCells a vs i)
  | [], _ => by unfold storeCells; exact .pure _
  | v :: vs, i => by unfold storeCells; exact .bnd (QRk _ _) fun _ => Qkv a vs (i + 1)
theorem QAq (t : TypeId) (a : Addr) : Tame P (loadVar t a) := .bnd (QAl t) fun b => by
  split
  · exact .bnd (JV t) fun n => .bnd (QAo a n) fun _ => .pure _
  · exact QAm a
theorem QRl (t : TypeId) (a : Addr) (v : Value) : Tame P (storeVar t a v) := .bnd (JV t) fun n => by
  split
  · exact .bnd (Y9 _) fun _ => Qkv _ _ _
  · exact Qkv _ _ _
theorem Qkt (t : TypeId) (c : Array Value) : Tame P (newRow t c) := .bnd (QAs _ rfl) fun n => .pure _
theorem Qqg (t : TypeId) (v : Value) : Tame P (newVar t v) := Qkt t _
theorem Qkw (v : Value) : Tame P (Instr.sureAddr v) := by
  unfold Instr.sureAddr; split
  · exact .pure _
  · exact Y9 _
theorem QAn (t : TypeId) (v : Value) : Tame P (Instr.loadAt t v) := .bnd (Qkw v) fun a => QAq t a
theorem QAu (t : TypeId) (v x : Value) : Tame P (Instr.storeAt t v x) := .bnd (Qkw v) fun a => QRl t a x
theorem QQv (t : TypeId) : Tame P (Instr.alloc t true (.tuple #[])) := .bnd (Qgo t) fun z => .bnd (Qqg t z) fun _ => .pure _
theorem QQy (t : TypeId) (v : Value) : Tame P (Instr.box t v) := .bnd (Qqg t v) fun _ => .pure _
end
end Go.Gw
