/- Laws of the walk. Condition: each theorem says its own. -/
import Derived.Test.YtigpjhlbndfkkaaGreatDoorGwCj1
import Derived.Conc.Beside
import Derived.Conc.LeavingOf
set_option linter.unusedVariables false
set_option linter.unusedSimpArgs false
set_option linter.unusedSectionVars false
section
set_option linter.unusedVariables false
namespace Go.Gw
open Go Go.Conc

/-! ### Ranks -/
inductive Tr where
 | leaf
 | mk (f:World->Tr)
/-! ### At the channel -/
section
variable {P:Program} {gs:Array Goroutine} {w w':World} {sl:Option (Nat×Nat)}
variable {c s r:Nat} {z v:Value} {i:Nat} {g:Goroutine} {rest:Rest}
end
end Go.Gw

end
section
set_option linter.unusedVariables false
namespace Go.Gw
open Go Go.Conc
open Go.ConcR (deafBehind_cons deafBehind_one)

structure View where
 F:Nat->Prop
 Z:Nat->Prop
 w:World
structure Seen (c:Nat) (x:View) (W:World) (t:Trace) (i:Nat):Prop where
 agr:Agr x.F x.Z x.w W
 nov:YJ x.w
 bnd:∀ b,x.F b->b < W.heap.size
 chan:¬ x.F c
 own:∀ e a ad,touchAt t e=some a->AtL a.loc ad->x.F ad.block->¬ x.Z ad.block->Knows t i e
 shr:∀ e a ad,touchAt t e=some a->AtL a.loc ad->x.Z ad.block->a.write=true->Knows t i e
 deaf:Deaf t i=0
/-! ### What a step may list -/
end Go.Gw

end
section
set_option linter.unusedVariables false
namespace Go.Gw
open Go Go.Conc

section
variable {Sh:Loc->Prop} {c n:Nat} {vs:Nat->Option View} {W W':World} {t:Trace} {i:Nat} {x:View}
end
end Go.Gw

end
section
set_option linter.unusedVariables false
namespace Go.Gw
open Go Go.Conc
section
variable {Sh:Loc->Prop} {c n:Nat} {vs:Nat->Option View} {W W':World} {t:Trace} {i:Nat} {x:View}

/-! ### A new goroutine -/
open Classical in
open Classical in
noncomputable def hid (C:Nat->Prop) (w:World):World:={ w with heap:=w.heap.mapIdx fun b o=>if C b then o else Qas }
open Classical in
open Classical in
/-! ### Operations that touch nothing -/
end
end Go.Gw

end
section
set_option linter.unusedVariables false
namespace Go.Gw
open Go Go.Conc
section
variable {Sh:Loc->Prop} {c n:Nat} {vs:Nat->Option View} {W W':World} {t:Trace} {i:Nat} {x:View}

end
end Go.Gw

end
section
set_option linter.unusedVariables false
namespace Go.Gw
open Go Go.Conc
section
variable {Sh:Loc->Prop} {c n:Nat} {vs:Nat->Option View} {W W':World} {t:Trace} {i:Nat} {x y:View}

open Classical in
open Classical in
end
end Go.Gw

end
section
set_option linter.unusedVariables false
namespace Go.Gw
open Go Go.Conc

end Go.Gw

end
section
set_option linter.unusedVariables false
namespace Go.Gw
open Go Go.Conc

section
variable {P:Program} {Sh:Loc->Prop} {c:Nat} {Fs:Nat->Prop} {Ws:World} {mp:Bool} {Z:Nat->Prop} {orig:Nat->Option Obj} {O:List (Value->World->Prop)} {g:Goroutine} {w:World}
variable {vs:Nat->Option View} {ph:Nat->Value->World->Prop} {A:List Nat} {τ:List Tr} {gs:Array Goroutine} {W:World} {t:Trace}

end
end Go.Gw

end
section
set_option linter.unusedVariables false
namespace Go.Gw
open Go Go.Conc

structure Went (F:Nat->Prop) (W:World) (F':Nat->Prop) (W':World):Prop where
 more:∀ b,F b->F' b
 new:∀ b,F' b->F b\/W.heap.size<=b
 keep:∀ b,b < W.heap.size->¬ F b->W'.heap[b]?=W.heap[b]?
 size:W.heap.size<=W'.heap.size
 same:W'.tape=W.tape/\W'.os=W.os/\W'.output=W.output

open Classical in
open Classical in
open Classical in
section
variable {P:Program} {Sh:Loc->Prop} {c:Nat} {Fs:Nat->Prop} {Ws:World} {mp:Bool} {Z:Nat->Prop} {orig:Nat->Option Obj} {O:List (Value->World->Prop)} {g:Goroutine} {w:World}
variable {vs:Nat->Option View} {ph:Nat->Value->World->Prop} {A:List Nat} {τ:List Tr} {gs:Array Goroutine} {W:World} {t:Trace} {S:Goroutine->World->Prop}

end
end Go.Gw

end
section
set_option linter.unusedVariables false
namespace Go.Gw
open Go Go.Conc
section
variable {P:Program} {Sh:Loc->Prop} {c:Nat} {Fs:Nat->Prop} {Ws:World} {mp:Bool} {Z:Nat->Prop} {orig:Nat->Option Obj} {O:List (Value->World->Prop)} {g:Goroutine} {w:World}
variable {vs:Nat->Option View} {ph:Nat->Value->World->Prop} {A:List Nat} {τ:List Tr} {gs:Array Goroutine} {W:World} {t:Trace} {S:Goroutine->World->Prop}

end
end Go.Gw

end
section
set_option linter.unusedVariables false
namespace Go.Gw
open Go Go.Conc
section
variable {P:Program} {Sh:Loc->Prop} {c:Nat} {Fs:Nat->Prop} {Ws:World} {S:Goroutine->World->Prop}

end
end Go.Gw

end
section
set_option linter.unusedVariables false
namespace Go.Gw
open Go Go.Conc
open Go.ConcN (sumTo upd sumTo_upd upd_ne upd_same)
section
variable {P:Program} {Sh:Loc->Prop} {F F':Nat->Prop} {w w':World} {gs:Array Goroutine} {W W' W2:World} {t:Trace} {q:Nat->Nat} {g:Goroutine}

end
end Go.Gw

end
section
set_option linter.unusedVariables false
namespace Go.Gw
open Go Go.Conc
open Go.ConcN (sumTo upd sumTo_upd upd_ne upd_same)

section
variable {P:Program} {Sh:Loc->Prop} {F F':Nat->Prop} {w w':World} {gs:Array Goroutine} {W W' W2:World} {t:Trace} {q:Nat->Nat} {g:Goroutine} {S:Goroutine->World->Prop}

/-! ### The return -/
end
end Go.Gw

end
section
set_option linter.unusedVariables false
namespace Go.Gw
open Go Go.Conc
open Go.ConcN (sumTo upd sumTo_upd upd_ne upd_same)
section
variable {P:Program} {Sh:Loc->Prop} {F F':Nat->Prop} {w w':World} {gs:Array Goroutine} {W W' W2:World} {t:Trace} {q:Nat->Nat} {g g':Goroutine} {S:Goroutine->World->Prop}

/-! ### Pieces -/
end
end Go.Gw

end
