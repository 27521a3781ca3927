/- Goroutines: which operations are tame. No condition. -/
import Derived.Test.YtpgpimedmpeliaaGreatDoorGwCj3
set_option linter.unusedVariables false
set_option linter.unusedSimpArgs false
set_option linter.unusedSectionVars false
set_option linter.unusedVariables false
namespace Go.Gw
open Go Go.Conc
section
variable {P:Program} {α β:Type}
theorem Tame.bnd {m:Sem α} {f:α→Sem β} (h:Tame P m) (hf:∀ a,Tame P (f a)):Tame P (m >>= f):=Tame.bind h hf
theorem Tame.still {m:Sem α} (r:α) (h:∀ w es,m.runT P w es=(.ok r w,es)):Tame P m:=.same m (.pure r) (fun w es=>by rw [h];rfl) (.pure r)
theorem XW (s:String):Tame P (stuck s:Sem α):=.halt _
theorem ZR (s:Unsupported):Tame P (unsupported s:Sem α):=.halt _
theorem Qgv:Tame P program:=.program _ (.pure _)
theorem Qkx (a:Addr):Tame P (load a):=.load _ _ fun v=>.pure v
theorem QJm (a:Addr) (v:Value):Tame P (store a v):=.store _ _ _ (.pure ())
theorem Qal (q:Question):Tame P (choose q):=.choose _ _ fun n=>.pure n
theorem Qeb (o:Obj) (h:Obj.still o=true):Tame P (newObj o):=.new _ _ h fun n=>.pure n
theorem Qea (n:Nat):Tame P (askRoom n):=by
  unfold askRoom;split
  · exact .room _ (.pure ())
  · exact .pure ()
theorem Z5 (t:TypeId):Tame P (typeInfo t):=.bnd Qgv fun p=>by
  split
  · exact .pure _
  · exact XW _
theorem Zv (t:TypeId):Tame P (underlying t):=.bnd Qgv fun p=>by
  split
  · exact .pure _
  · exact XW _
theorem Qap (t:TypeId):Tame P (zeroValue t):=.bnd (Z5 t) fun p=>by
  split
  · exact .pure _
  · exact ZR _
theorem YT (t:TypeId):Tame P (sizeOf t):=.bnd (Z5 t) fun p=>.pure _
theorem Qss (t:TypeId):Tame P (isAgg t):=.bnd (Zv t) fun p=>by
  split<;>exact .pure _
theorem Qsv (a:Addr):∀ (n i:Nat) (acc:Array Value),Tame P (loadCellsFrom a i n acc)
  | 0,_,_=>.pure _
  | n+1,i,acc=>.bnd (Qkx _) fun v=>Qsv a n (i+1) (acc.push v)
theorem Qsu (a:Addr) (n:Nat):Tame P (loadCells a n):=Qsv a n 0 #[]
theorem Qao (a:Addr):∀ (vs:List Value) (i:Nat),Tame P (storeCells a vs i)
  | [],_=>by unfold storeCells;exact .pure _
  | v::vs,i=>by unfold storeCells;exact .bnd (QJm _ _) fun _=>Qao a vs (i+1)
theorem Qsw (t:TypeId) (a:Addr):Tame P (loadVar t a):=.bnd (Qss t) fun b=>by
  split
  · exact .bnd (YT t) fun n=>.bnd (Qsu a n) fun _=>.pure _
  · exact Qkx a
theorem QJn (t:TypeId) (a:Addr) (v:Value):Tame P (storeVar t a v):=.bnd (YT t) fun n=>by
  split
  · exact .bnd (XW _) fun _=>Qao _ _ _
  · exact Qao _ _ _
theorem Qam (t:TypeId) (c:Array Value):Tame P (newRow t c):=.bnd (Qeb _ rfl) fun n=>.pure _
theorem Qkz (t:TypeId) (v:Value):Tame P (newVar t v):=Qam t _
theorem Qgw (v:Value):Tame P (Instr.sureAddr v):=by
  unfold Instr.sureAddr;split
  · exact .pure _
  · exact XW _
theorem Qst (t:TypeId) (v:Value):Tame P (Instr.loadAt t v):=.bnd (Qgw v) fun a=>Qsw t a
theorem Qla (t:TypeId) (v x:Value):Tame P (Instr.storeAt t v x):=.bnd (Qgw v) fun a=>QJn t a x
theorem QIx (t:TypeId):Tame P (Instr.alloc t true (.tuple #[])):=.bnd (Qap t) fun z=>.bnd (Qkz t z) fun _=>.pure _
theorem QJb (t:TypeId) (v:Value):Tame P (Instr.box t v):=.bnd (Qkz t v) fun _=>.pure _
end
end Go.Gw
