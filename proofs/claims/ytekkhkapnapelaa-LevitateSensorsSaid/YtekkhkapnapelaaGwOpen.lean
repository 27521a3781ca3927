/- From a row's reading of the arguments to what the walks ask of them. No condition. -/
import Derived.Test.YtekkhkapnapelaaGwPlan
import Derived.ChangeArms
import Derived.OpenShut
import Derived.RowKit
import Derived.DataReads
set_option linter.unusedVariables false
set_option linter.unusedSimpArgs false
set_option linter.unusedSectionVars false
namespace Go.Gw
open Go

def Opn (P : Program) (T : TypeId) (α : Type) [Rep α] (V : α → Prop) : Prop :=
  P.cellsOf T = Rep.n α ∧ ∀ {H : Type} (enc : TypeId × Value → H) (w : World) (fuel : Nat) (cs : List Value) (x : DataW H × List MemPlace),
    DataW.trod enc P w 0 (fun _=>true) true fuel T cs = some x → ∃ d : α,Rep.rd [] w cs d ∧ V d

def Z7 (n : Int) : Prop:=-9223372036854775808 ≤ n ∧ n ≤ 9223372036854775807
theorem Qnw {n : Int} (h : (Lit.int .i64 n).wf = true) : Z7 n:=by
  simp [Lit.wf,IntKind.min,IntKind.max,IntKind.signed,IntKind.bits] at h
  unfold Z7; omega
theorem Qvn {P : Program} {T : TypeId} (ht : P.underlying T = some (.int .i64)) (hc : P.cellsOf T = 1) : Opn P T Int Z7 :=
  ⟨hc,fun enc w fuel cs x h=>by
    obtain ⟨n,h1,_,h3⟩:=DataW.trod_int ht h
    exact ⟨n,h1,Qnw h3⟩⟩
theorem Qvm {H : Type} {enc : TypeId × Value → H} {P : Program} {w : World} {fuel : Nat} {T e m : Nat} {cs : List Value} {x : DataW H × List MemPlace} (ht : P.underlying T = some (.array m e)) (h : DataW.trod enc P w 0 (fun _ => true) true fuel T cs = some x) :
    cs.length = P.cellsOf T ∧ ∃ n,∀ i,i < m → ∃ y,DataW.trod enc P w 0 (fun _=>true) true n e ((cs.drop (i * P.cellsOf e)).take (P.cellsOf e)) = some y:=by
  obtain ⟨xs,n,_,_,hl,hx,hf⟩:=DataW.trod_array ht h
  refine ⟨hl,n,fun i hi=>?_⟩
  have hlt : i < xs.length:=by omega
  rw [hf i hi]
  exact ⟨xs[i],List.getElem?_eq_getElem hlt⟩
end Go.Gw
