/- The closing of a law's row: what the walk gives is what the row asks. No condition. -/
import Derived.Test.YtpgpimedmpeliaaGreatDoorGwOpen
import Derived.Test.YtpgpimedmpeliaaGreatDoorGwCj23
import Derived.WalkKit
import Derived.ProofKit
import Derived.OpenShut
import Derived.Carry
import Derived.Deep.DeepHandedRow
import Derived.Lib.LaidTab
set_option linter.unusedVariables false
set_option linter.unusedSimpArgs false
set_option linter.unusedSectionVars false
namespace Go.Gw
open Go Go.ChangeShapes Go.WideShapes Go.RowKit

def Qdg (P:Program) (ts:List TypeId):Bool:=ts.all fun t=>P.readableRec t&&decide (t < P.types.size)
theorem Qtb {H : Type} {enc : TypeId × Value → H} {P : Program} (hl : laidOutB P = true) {W W' : World} (hb : Below W.heap.size W W') : ∀ {ts : List TypeId} {vs : List Value} {ds : List (DataW H)} {ps : List MemPlace}, Qdg P ts = true →
    DataW.TrodAll enc P W 0 (fun _=>true) true ts vs ds ps→(∀ x∈ps,x.block < W.heap.size)→DataW.TrodAll enc P W' 0 (fun b=>decide (b < W.heap.size)) true ts vs ds ps
  | [],vs,ds,ps,_,h,_=>by
    obtain ⟨rfl,rfl,rfl⟩:=trodAll_nil h
    rfl
  | t::ts,vs,ds,ps,hr,h,hlt=>by
    simp only [Qdg,List.all_cons,Bool.and_eq_true,decide_eq_true_eq] at hr
    obtain ⟨v,vs',d,ds',p,q,rfl,rfl,rfl,h1,h2⟩:=trodAll_cons h
    exact ⟨p,q,Below.trod hl hr.1.1 hr.1.2 h1 hb (fun x hx=>hlt x (List.mem_append_left _ hx)),Qtb hl hb (by simpa [Qdg] using hr.2) h2 (fun x hx=>hlt x (List.mem_append_right _ hx)),rfl⟩

theorem Qzl {H : Type} {enc : TypeId × Value → H} {P : Program} {f : Func} {s : ChangeSpec} {W W' : World} {args : Array Value} {ds gs : List (DataW H)} {before : List MemPlace} {B : TypeId} (hl : laidOutB P = true) (hr : Qdg P f.params.toList = true)
    (hW:DataW.Whole enc P f.params.toList s.vars false W args.toList ds gs before) (hv:s.vars=[]) (hres:(s.fn H (ds++gs)).results=[.lit (.bool true)]) (hargs:(s.fn H (ds++gs)).args=ds) (hvars:(s.fn H (ds++gs)).vars=[])
    (hrt:f.resultTypes=#[B]) (hB:P.underlying B=some .bool) (he:Ext W W'):s.post enc P f false true false false W args (.bool true) W':=by
  have hlt:=hW.lt
  have hW':=hW
  obtain ⟨p,q,hA,hV,rfl,hfz,hnd⟩:=hW
  rw [hv] at hV
  obtain ⟨rfl,rfl⟩:=trodVars_none hV
  refine ⟨ds,[],p++[],[],p,[],hW',?_,?_,?_,?_,fun h=>by cases h⟩
  · rw [hres,hrt];exact trodAll_cons_mk (shut_bool hB _) trodAll_mk0
  · rw [hargs];exact Qtb hl he.below hr hA (fun x hx=>hlt x (by simpa using hx))
  · rw [hvars,hv];rfl
  · exact he.below.frame _

/-! ### Arguments -/
section
variable {H:Type} {enc:TypeId×Value→H} {P:Program} {W:World} {b0:Nat} {T:TypeId} {v:Value} {d:DataW H} {ps:List MemPlace}
theorem Quw {α : Type} [Rep α] {V : α → Prop} {fs : Array Field} (ho : JW P T α V) (ht : P.underlying T = some (.struct fs)) (hval : Value.okWide P W .any b0 T v) (hd : DataW.Trod enc P W 0 (fun _ => true) true T v d ps) :
    ∃ (cs:List Value) (x:α),v=.agg cs.toArray∧Rep.rd [] W cs x∧V x:=by
  unfold Value.okWide at hval
  rw [ht] at hval
  obtain ⟨cs,rfl,_⟩:=hval
  obtain ⟨fuel,hf⟩:=hd
  obtain ⟨x,h1,h2⟩:=ho.2 enc W fuel _ _ hf
  exact ⟨cs.toList,x,by simp,h1,h2⟩
theorem Qux {α : Type} [Rep α] {V : α → Prop} {m e : Nat} (ho : JW P T α V) (ht : P.underlying T = some (.array m e)) (hval : Value.okWide P W .any b0 T v) (hd : DataW.Trod enc P W 0 (fun _ => true) true T v d ps) :
    ∃ (cs:List Value) (x:α),v=.agg cs.toArray∧Rep.rd [] W cs x∧V x:=by
  unfold Value.okWide at hval
  rw [ht] at hval
  obtain ⟨cs,rfl,_⟩:=hval
  obtain ⟨fuel,hf⟩:=hd
  obtain ⟨x,h1,h2⟩:=ho.2 enc W fuel _ _ hf
  exact ⟨cs.toList,x,by simp,h1,h2⟩
theorem Quy (ht:P.underlying T=some (.int .i64)) (hval:Value.okWide P W .any b0 T v) (hd:DataW.Trod enc P W 0 (fun _=>true) true T v d ps):∃ n:Int,v=.int .i64 n∧Zb n:=by
  obtain ⟨n,h1,_,_,h2⟩:=open_int ht hval hd
  exact ⟨n,h1,Qtk h2⟩
end
end Go.Gw
