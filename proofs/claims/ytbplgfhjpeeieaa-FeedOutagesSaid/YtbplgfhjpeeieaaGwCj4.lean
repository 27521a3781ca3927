/- Goroutines: which operations are tame. No condition. -/
import Derived.Test.YtbplgfhjpeeieaaGwCj3
set_option linter.unusedVariables false
set_option linter.unusedSimpArgs false
set_option linter.unusedSectionVars false
set_option linter.unusedVariables false
namespace Go.Gw
open Go Go.Conc
section
variable {P : Program} {α β : Type}
theorem Tame.bnd {m : Sem α} {f : α → Sem β} (h : Tame P m) (hf : ∀ a,Tame P (f a)) : Tame P (m >>= f):=Tame.bind h hf
theorem Tame.still {m : Sem α} (r : α) (h : ∀ w es,m.runT P w es = (.ok r w,es)) : Tame P m:=.same m (.pure r) (fun w es=>by rw [h]; rfl) (.pure r)
theorem Zc (s : String) : Tame P (stuck s : Sem α):=.halt _
theorem Qag (s : Unsupported) : Tame P (unsupported s : Sem α):=.halt _
theorem Qlu : Tame P program:=.program _ (.pure _)
theorem QBn (a : Addr) : Tame P (load a):=.load _ _ fun v=>.pure v
theorem QTp (a : Addr) (v : Value) : Tame P (store a v):=.store _ _ _ (.pure ())
theorem Qlr (q : Question) : Tame P (choose q):=.choose _ _ fun n=>.pure n
theorem QBt (o : Obj) (h : Obj.still o = true) : Tame P (newObj o):=.new _ _ h fun n=>.pure n
theorem QBi (n : Nat) : Tame P (askRoom n):=by
  unfold askRoom; split
  · exact .room _ (.pure ())
  · exact .pure ()
theorem Qej (t : TypeId) : Tame P (typeInfo t):=.bnd Qlu fun p=>by
  split
  · exact .pure _
  · exact Zc _
theorem Qaf (t : TypeId) : Tame P (underlying t):=.bnd Qlu fun p=>by
  split
  · exact .pure _
  · exact Zc _
theorem Qhm (t : TypeId) : Tame P (zeroValue t):=.bnd (Qej t) fun p=>by
  split
  · exact .pure _
  · exact Qag _
theorem JL (t : TypeId) : Tame P (sizeOf t):=.bnd (Qej t) fun p=>.pure _
theorem QBm (t : TypeId) : Tame P (isAgg t):=.bnd (Qaf t) fun p=>by
  split <;> exact .pure _
theorem QBq (a : Addr) : ∀ (n i : Nat) (acc : Array Value),Tame P (loadCellsFrom a i n acc)
  | 0,_,_=>.pure _
  | n + 1,i,acc=>.bnd (QBn _) fun v=>QBq a n (i + 1) (acc.push v)
theorem QBp (a : Addr) (n : Nat) : Tame P (loadCells a n):=QBq a n 0 #[]
theorem Qlv (a : Addr) : ∀ (vs : List Value) (i : Nat),Tame P (storeCells a vs i)
  | [],_=>by unfold storeCells; exact .pure _
  | v :: vs,i=>by unfold storeCells; exact .bnd (QTp _ _) fun _=>Qlv a vs (i + 1)
theorem QBr (t : TypeId) (a : Addr) : Tame P (loadVar t a):=.bnd (QBm t) fun b=>by
  split
  · exact .bnd (JL t) fun n=>.bnd (QBp a n) fun _=>.pure _
  · exact QBn a
theorem QTq (t : TypeId) (a : Addr) (v : Value) : Tame P (storeVar t a v):=.bnd (JL t) fun n=>by
  split
  · exact .bnd (Zc _) fun _=>Qlv _ _ _
  · exact Qlv _ _ _
theorem Qlt (t : TypeId) (c : Array Value) : Tame P (newRow t c):=.bnd (QBt _ rfl) fun n=>.pure _
theorem Qrg (t : TypeId) (v : Value) : Tame P (newVar t v):=Qlt t _
theorem Qlw (v : Value) : Tame P (Instr.sureAddr v):=by
  unfold Instr.sureAddr; split
  · exact .pure _
  · exact Zc _
theorem QBo (t : TypeId) (v : Value) : Tame P (Instr.loadAt t v):=.bnd (Qlw v) fun a=>QBr t a
theorem Qrh (t : TypeId) (v x : Value) : Tame P (Instr.storeAt t v x):=.bnd (Qlw v) fun a=>QTq t a x
theorem QSy (t : TypeId) : Tame P (Instr.alloc t true (.tuple #[])):=.bnd (Qhm t) fun z=>.bnd (Qrg t z) fun _=>.pure _
theorem QTb (t : TypeId) (v : Value) : Tame P (Instr.box t v):=.bnd (Qrg t v) fun _=>.pure _
end
end Go.Gw
