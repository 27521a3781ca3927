/- From a row's reading of the arguments to what the walks ask of them. No condition. -/
import Derived.Test.YtpgpimedmpeliaaGreatDoorGwLib6
import Derived.ChangeArms
import Derived.OpenShut
import Derived.RowKit
import Derived.DataReads
set_option linter.unusedVariables false
set_option linter.unusedSimpArgs false
set_option linter.unusedSectionVars false
namespace Go.Gw
open Go

def JW (P:Program) (T:TypeId) (α:Type) [Rep α] (V:α→Prop):Prop :=
  P.cellsOf T=Rep.n α∧∀ {H:Type} (enc:TypeId×Value→H) (w:World) (fuel:Nat) (cs:List Value) (x:DataW H×List MemPlace),
    DataW.trod enc P w 0 (fun _=>true) true fuel T cs=some x→∃ d:α,Rep.rd [] w cs d∧V d

def Zb (n:Int):Prop:=-9223372036854775808≤n∧n≤9223372036854775807
theorem Qtk {n:Int} (h:(Lit.int .i64 n).wf=true):Zb n:=by
  simp [Lit.wf,IntKind.min,IntKind.max,IntKind.signed,IntKind.bits] at h
  unfold Zb;omega
theorem QFk {P:Program} {T:TypeId} (ht:P.underlying T=some (.int .i64)) (hc:P.cellsOf T=1):JW P T Int Zb :=
  ⟨hc,fun enc w fuel cs x h=>by
    obtain ⟨n,h1,_,h3⟩:=DataW.trod_int ht h
    exact ⟨n,h1,Qtk h3⟩⟩
theorem QFj {H : Type} {enc : TypeId × Value → H} {P : Program} {w : World} {fuel : Nat} {T : TypeId} {cs : List Value} {x : DataW H × List MemPlace} {fs : Array Field} (ht : P.underlying T = some (.struct fs)) (h : DataW.trod enc P w 0 (fun _ => true) true fuel T cs = some x) :
    cs.length=P.cellsOf T∧∃ n,∀ (i:Nat) (f:Field),fs[i]?=some f→∃ y,DataW.trod enc P w 0 (fun _=>true) true n f.type ((cs.drop f.offset).take (P.cellsOf f.type))=some y:=by
  obtain ⟨xs,n,_,_,hl,hx,hf⟩:=DataW.trod_struct ht h
  refine ⟨hl,n,fun i f hi=>?_⟩
  have hlt:i < xs.length:=by rw [hx];exact (Array.getElem?_eq_some_iff.1 hi).1
  rw [hf i f hi]
  exact ⟨xs[i],List.getElem?_eq_getElem hlt⟩
theorem Qqd {H : Type} {enc : TypeId × Value → H} {P : Program} {w : World} {fuel : Nat} {T e m : Nat} {cs : List Value} {x : DataW H × List MemPlace} (ht : P.underlying T = some (.array m e)) (h : DataW.trod enc P w 0 (fun _ => true) true fuel T cs = some x) :
    cs.length=P.cellsOf T∧∃ n,∀ i,i < m→∃ y,DataW.trod enc P w 0 (fun _=>true) true n e ((cs.drop (i * P.cellsOf e)).take (P.cellsOf e))=some y:=by
  obtain ⟨xs,n,_,_,hl,hx,hf⟩:=DataW.trod_array ht h
  refine ⟨hl,n,fun i hi=>?_⟩
  have hlt:i < xs.length:=by omega
  rw [hf i hi]
  exact ⟨xs[i],List.getElem?_eq_getElem hlt⟩
end Go.Gw
