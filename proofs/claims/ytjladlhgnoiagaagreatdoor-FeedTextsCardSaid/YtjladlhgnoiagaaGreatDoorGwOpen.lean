/- From a row's reading of the arguments to what the walks ask of them. No condition. -/
import Derived.Test.YtjladlhgnoiagaaGreatDoorGwCj6
import Derived.ChangeArms
import Derived.OpenShut
import Derived.RowKit
import Derived.DataReads
set_option linter.unusedVariables false
set_option linter.unusedSimpArgs false
set_option linter.unusedSectionVars false
namespace Go.Gw
open Go

def Opn (P:Program) (T:TypeId) (α:Type) [Rep α] (V:α->Prop):Prop :=
 P.cellsOf T=Rep.n α/\∀ {H:Type} (enc:TypeId×Value->H) (w:World) (fuel:Nat) (cs:List Value) (x:DataW H×List MemPlace),
  DataW.trod enc P w 0 (fun _=>true) true fuel T cs=some x->∃ d:α,Rep.rd [] w cs d/\V d

def R64 (n:Int):Prop:=-9223372036854775808<=n/\n<=9223372036854775807
theorem QJh {n:Int} (h:(Lit.int .i64 n).wf=true):R64 n:=by
 grind [R64,Lit.wf,IntKind.min,IntKind.max,IntKind.signed,IntKind.bits]
theorem QEo {P:Program} {T:TypeId} (ht:P.underlying T=some (.int .i64)) (hc:P.cellsOf T=1):Opn P T Int R64 :=
 ⟨hc,fun enc w fuel cs x h=>by
  obtain ⟨n,h1,_,h3⟩:=DataW.trod_int ht h;exact ⟨n,h1,QJh h3⟩⟩
theorem QEp {P:Program} {T:TypeId} (ht:P.underlying T=some .string) (hc:P.cellsOf T=1):Opn P T ByteArray (fun s=>s.size<=maxLen) :=
 ⟨hc,fun enc w fuel cs x h=>by
  obtain ⟨b,h1,_,h3⟩:=DataW.trod_string ht h;exact ⟨b,h1,h3⟩⟩
theorem QEn {H:Type} {enc:TypeId×Value->H} {P:Program} {w:World} {fuel:Nat} {T:TypeId} {cs:List Value} {x:DataW H×List MemPlace} {fs:Array Field} (ht:P.underlying T=some (.struct fs)) (h:DataW.trod enc P w 0 (fun _=>true) true fuel T cs=some x) :
  cs.length=P.cellsOf T/\∃ n,∀ (i:Nat) (f:Field),fs[i]?=some f->∃ y,DataW.trod enc P w 0 (fun _=>true) true n f.type ((cs.drop f.offset).take (P.cellsOf f.type))=some y:=by
 obtain ⟨xs,n,_,_,hl,hx,hf⟩:=DataW.trod_struct ht h;refine ⟨hl,n,fun i f hi=>?_⟩
 grind
end Go.Gw
