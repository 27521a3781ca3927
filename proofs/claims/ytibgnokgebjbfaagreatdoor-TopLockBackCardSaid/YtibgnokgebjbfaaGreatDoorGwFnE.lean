/- What functions come to, printed by a program of this work. No condition. -/
import Derived.Test.YtibgnokgebjbfaaGreatDoorGwFnD
import Derived.Test.YtibgnokgebjbfaaGreatDoorGwLib5
set_option linter.unusedSimpArgs false
set_option maxRecDepth 4096
set_option maxHeartbeats 8000000
set_option linter.unusedVariables false
set_option linter.unusedSectionVars false
namespace Go.Gw
open Go Go.Proofs
attribute [local irreducible] T0 TS TT TP Eff Stp WC Quiet gd
variable [JD Tryz.prog]
noncomputable def QGv (I:Nq) (U:Int) (H:List Nq):(List Nx×Int)->Option ((List Nx×Int)⊕(List Nx)):=fun (G,h)=>(bif (decide (h < (H.length:Int)))then(Option.bind (idx H h) fun J=>(Option.bind (QOr J.Na I) fun O=>(bif O then(Option.bind (app G ([(Nx.mk h U)]:List Nx)) fun M=>some (.inl (M,w64 (h+1))))else(some (.inl (G,w64 (h+1)))))))else(some (.inr G)))
noncomputable def QGw (I:Ng):(List Nx×Int)->Option ((List Nx×Int)⊕(List Nx)):=fun (G,h)=>(bif (decide (h < (I.Nj.length:Int)))then(Option.bind (idx I.Nj h) fun H=>(Option.bind (cut I.Nj 0 h) fun J=>(Option.bind (loop (QGv H h J) (G,0)) fun (M:List Nx)=>some (.inl (M,w64 (h+1))))))else(some (.inr G)))
noncomputable def QGx (H:Ng):Option (List Nx×Int):=(Option.bind (Qde H) fun I=>(bif (!decide (I=0))then(some (([]:(List Nx)),I))else(Option.bind (loop (QGw H) (([]:List Nx),0)) fun (G:List Nx)=>(Option.bind (QPb G) fun h=>some (h,0)))))
end Go.Gw
