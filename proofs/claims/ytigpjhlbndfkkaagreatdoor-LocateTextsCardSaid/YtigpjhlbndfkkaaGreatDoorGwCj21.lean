/- Laws of the walk. Condition: each theorem says its own. -/
import Derived.Test.YtigpjhlbndfkkaaGreatDoorGwCj7
import Derived.Test.YtigpjhlbndfkkaaGreatDoorGwCore
import Derived.Test.YtigpjhlbndfkkaaGreatDoorGwCj6
import Derived.Test.YtigpjhlbndfkkaaGreatDoorGwOpen
import Derived.WalkKit
import Derived.ProofKit
import Derived.OpenShut
import Derived.Carry
import Derived.Deep.DeepHandedRow
import Derived.Lib.LaidTab
import Derived.LaidSub
import Derived.ChangeMaps5
set_option linter.unusedVariables false
set_option linter.unusedSimpArgs false
set_option linter.unusedSectionVars false
section
set_option linter.unusedVariables false
set_option linter.unusedSectionVars false
namespace Go.Gw
open Go Go.Conc

section
variable {P:Program} [JD P] {n:Nat} {ρ:Env} {w:World}

end

section
variable {P:Program}
end
end Go.Gw

end
section
set_option linter.unusedVariables false
set_option linter.unusedSectionVars false
namespace Go.Gw
open Go Go.Conc

section
variable {P:Program} [JD P] {n:Nat} {ρ:Env} {w:World} {b:Frame} {kk:List Item} {cs:List Frame} {Stop:Goroutine->World->Prop}
section
variable {J:Jd P}
end
end

section
variable {P:Program} {c:Nat} {S:Goroutine->World->Prop} {Z:Nat->Prop} {orig:Nat->Option Obj} {O:List (Value->World->Prop)} {g:Goroutine} {w w1 w':World}
end

/-! ### Rows -/
section
variable {w0 w w1 w':World} {b8:Nat} {Z:Nat->Prop} {orig:Nat->Option Obj} {L:List Value}
end

/-! ### The making of a channel -/
end Go.Gw

end
section
set_option linter.unusedVariables false
set_option linter.unusedSectionVars false
namespace Go.Gw
open Go Go.Conc
open Go.ConcN (sumTo)
section
variable {P:Program}
end
section
variable {P:Program} {n:Nat} {w:World}
end
/-! ### The first view -/
def Qcf:Obj->Obj
 | .view ..=>Qas
 | o=>o
def view0 (W:World):World:={ W with heap:=W.heap.map Qcf }
def Qfg (W:World):Nat->Prop:=fun b=>∃ o,W.heap[b]?=some o/\Qcf o=o
theorem Qdp {W:World} {b:Nat}:(view0 W).heap[b]?=(W.heap[b]?).map Qcf:=by simp [view0]
theorem QIe {o:Obj} (h:Qcf o≠o):Qcf o=Qas:=by
 cases o<;>first | rfl | trivial
theorem Qsw (W:World):Agr (Qfg W) (fun _=>False) (view0 W) W:=by
 refine ⟨rfl,rfl,rfl,rfl,by simp [view0],fun b hb _=>?_,fun b _ h=>h.elim,fun b hb hlt=>?_,fun b h=>h.elim⟩
 ·obtain ⟨o,h1,h2⟩:=hb
  grind [Qdp]
 ·have hlt':b < W.heap.size:=by grind [view0]
  rw [Qdp,Array.getElem?_eq_getElem hlt'];simp only [Option.map_some,Option.some.injEq];exact QIe fun h=>hb ⟨_,Array.getElem?_eq_getElem hlt',h⟩
theorem QIi (W:World):YJ (view0 W):=fun b a u e=>by
 rw [Qdp] at e;cases h:W.heap[b]? with
 | none=>simp_all
 | some o =>
  rw [h] at e;simp only [Option.map_some,Option.some.injEq] at e;cases o<;>simp [Qcf,Qas] at e
theorem Qsx {L:List Value} (W:World):Stepp L W L (view0 W):=⟨fun {b cs e fz} hb hA=>⟨⟨fz,by rw [Qdp,hb];rfl⟩,hA⟩⟩
theorem Qwc {W W' w':World} {F':Nat->Prop} (he:Ext (view0 W) w') (hA:Agr F' (fun _=>False) w' W') (hw:Went (Qfg W) W F' W'):Ext W W':=by
 refine ⟨hw.same.2.1,hw.same.1,hw.same.2.2,hw.size,fun b hb _=>?_⟩;rcases Classical.em (Qfg W b) with h | h
 ·rw [hA.own b (hw.more b h) (fun h=>h),he.block b (by grind [view0]) (Avoids.nil _)];exact ((Qsw W).own b h (fun h=>h)).symm
 ·exact hw.keep b hb h
end Go.Gw

end
section
namespace Go.Gw
open Go Go.ChangeShapes Go.WideShapes Go.RowKit

def Qdh (P:Program) (ts:List TypeId):Bool:=ts.all fun t=>P.readableRec t&&decide (t < P.types.size)
theorem Qso {H:Type} {enc:TypeId×Value->H} {P:Program} (hl:laidOutB P=true) {W W':World} (hb:Below W.heap.size W W'):∀ {ts:List TypeId} {vs:List Value} {ds:List (DataW H)} {ps:List MemPlace},Qdh P ts=true ->
  DataW.TrodAll enc P W 0 (fun _=>true) true ts vs ds ps->(∀ x∈ps,x.block < W.heap.size)->DataW.TrodAll enc P W' 0 (fun b=>decide (b < W.heap.size)) true ts vs ds ps
 | [],vs,ds,ps,_,h,_=>by
  obtain ⟨rfl,rfl,rfl⟩:=trodAll_nil h;rfl
 | t::ts,vs,ds,ps,hr,h,hlt=>by
  simp only [Qdh,List.all_cons,Bool.and_eq_true,decide_eq_true_eq] at hr;obtain ⟨v,vs',d,ds',p,q,rfl,rfl,rfl,h1,h2⟩:=trodAll_cons h;exact ⟨p,q,Below.trod hl hr.1.1 hr.1.2 h1 hb (fun x hx=>hlt x (List.mem_append_left _ hx)),Qso hl hb (by simpa [Qdh] using hr.2) h2 (fun x hx=>hlt x (List.mem_append_right _ hx)),rfl⟩

theorem Qze {H:Type} {enc:TypeId×Value->H} {P:Program} {f:Func} {s:ChangeSpec} {W W':World} {args:Array Value} {ds gs:List (DataW H)} {before:List MemPlace} {B:TypeId} (hl:laidOutB P=true) (hr:Qdh P f.params.toList=true)
  (hW:DataW.Whole enc P f.params.toList s.vars false W args.toList ds gs before) (hv:s.vars=[]) (hres:(s.fn H (ds++gs)).results=[.lit (.bool true)]) (hargs:(s.fn H (ds++gs)).args=ds) (hvars:(s.fn H (ds++gs)).vars=[])
  (hrt:f.resultTypes=#[B]) (hB:P.underlying B=some .bool) (he:Ext W W'):s.post enc P f false true false false W args (.bool true) W':=by
 have hlt:=hW.lt;have hW':=hW;obtain ⟨p,q,hA,hV,rfl,hfz,hnd⟩:=hW;rw [hv] at hV;obtain ⟨rfl,rfl⟩:=trodVars_none hV;refine ⟨ds,[],p++[],[],p,[],hW',?_,?_,?_,?_,fun h=>by cases h⟩
 ·rw [hres,hrt];exact trodAll_cons_mk (shut_bool hB _) trodAll_mk0
 ·rw [hargs];exact Qso hl he.below hr hA (fun x hx=>hlt x (by simpa using hx))
 ·rw [hvars,hv];rfl
 ·exact he.below.frame _

/-! ### Arguments -/
section
variable {H:Type} {enc:TypeId×Value->H} {P:Program} {W:World} {b0:Nat} {T:TypeId} {v:Value} {d:DataW H} {ps:List MemPlace}
theorem Qkp {α:Type} [Rep α] {V:α->Prop} {fs:Array Field} (ho:Jc P T α V) (ht:P.underlying T=some (.struct fs)) (hval:Value.okWide P W .any b0 T v) (hd:DataW.Trod enc P W 0 (fun _=>true) true T v d ps) :
  ∃ (cs:List Value) (x:α),v=.agg cs.toArray/\Rep.rd [] W cs x/\V x:=by
 unfold Value.okWide at hval;rw [ht] at hval;obtain ⟨cs,rfl,_⟩:=hval;obtain ⟨fuel,hf⟩:=hd;obtain ⟨x,h1,h2⟩:=ho.2 enc W fuel _ _ hf;exact ⟨cs.toList,x,by simp,h1,h2⟩
end
end Go.Gw

end
section
namespace Go.Gw
open Go
theorem Quc {P:Program} {W:World} {name:String} {k:IntKind} {zs:List Int} {g:Nat} (h:Lib.TabIs P W name k zs) (hg:P.globalNamed name=some g):At W ⟨g,0,none⟩ (zs.map fun z=>Value.int k z):=by
 refine ⟨rfl,fun j v hv=>?_⟩;rw [X2,Nat.zero_add];rw [List.getElem?_map] at hv;obtain ⟨z,hz,rfl⟩:=Option.map_eq_some_iff.1 hv;have hj:j < zs.length:=by
  rcases Nat.lt_or_ge j zs.length with h1 | h1
  ·exact h1
  ·rw [List.getElem?_eq_none h1] at hz;cases hz
 have:=h.cell hg j hj;rw [this,List.getD_eq_getElem?_getD,hz];rfl
theorem At.view0 {W:World} {a:Addr} {cs:List Value} (h:At W a cs):At (view0 W) a cs:=by
 refine ⟨h.1,fun j v hv=>?_⟩;have h1:=h.2 j v hv;unfold World.cell? at h1 ⊢;rw [Qdp];cases hb:W.heap[(a.add j).block]? with
 | none=>rw [hb] at h1;exact h1
 | some o =>
  rw [hb] at h1;cases o<;>first | exact h1 | cases h1
theorem Qmu {P:Program} {W:World} {l:List (String×DataW Unit)} {name:String} {k:IntKind} {zs:List Int} {g t e n:Nat} (hf:l.filter (fun x=>x.1 == name)=[(name,Lib.tabData k zs)]) (hg:P.globalNamed name=some g) (hty:(P.globals[g]?).map (·.type)=some t) (ht:P.underlying t=some (.array n e)) (he:P.underlying e=some (.int k)) (hce:P.cellsOf e=1) (hct:P.cellsOf t=n) (h:laidMetH P l W) :
  At (Gw.view0 W) ⟨g,0,none⟩ (zs.map fun z=>Value.int k z):=by
 have h1:=laidMetH.filter (fun x=>x.1 == name) h;rw [hf] at h1;exact At.view0 (Quc (Lib.tabIs_of_head (rest:=[]) hg hty ht he hce hct h1) hg)
end Go.Gw

end
section
namespace Go.Gw
open Go
theorem Qyf {P:Program} {W:World} {t:TypeId} {cs:List Value} {fuel:Nat} {x:DataW Unit×List MemPlace} (ht:∃ ms,P.underlying t=some (.interface ms)) (h:DataW.trod (fun _=>()) P W 0 (fun _=>true) false fuel t cs=some x):∃ v,cs=[v]/\v.oneCell'=true:=by
 obtain ⟨ms,ht⟩:=ht;cases fuel with
 | zero=>cases h
 | succ n =>
  unfold DataW.trod at h;rw [ht] at h
  match cs,h with
  | [.nilIface],_=>exact ⟨_,rfl,rfl⟩
  | [.iface u v],_=>exact ⟨_,rfl,rfl⟩
theorem Qmt {P:Program} {W:World} {l:List (String×DataW Unit)} {name:String} {d:DataW Unit} {g t:Nat} (hf:l.filter (fun x=>x.1 == name)=[(name,d)]) (hd:d.handleName?=none) (hg:P.globalNamed name=some g) (hty:(P.globals[g]?).map (·.type)=some t) (ht:∃ ms,P.underlying t=some (.interface ms)) (h:laidMetH P l W) :
  ∃ v,At (Gw.view0 W) ⟨g,0,none⟩ [v]/\v.oneCell'=true:=by
 have h1:=laidMetH.filter (fun x=>x.1 == name) h;rw [hf] at h1;have h2:laidMet P [(name,d)] W:=by simpa [laidMetH,hd] using h1
 obtain ⟨ps,⟨g',t',cs,fuel,p,q,hg',ht',hvar,hr,_,_⟩,_⟩:=h2;obtain rfl:=Option.some.inj (hg.symm.trans hg');obtain rfl:=Option.some.inj (hty.symm.trans ht');obtain ⟨v,e,h3⟩:=Qyf ht hr;refine ⟨v,At.view0 ⟨rfl,fun j u hu=>?_⟩,h3⟩;have h4:=World.var?_cell hg hvar j;rw [X2,Nat.zero_add];rw [h4,<-Array.getElem?_toList,e];exact hu
theorem Qub {H:Type} {enc:TypeId×Value->H} {P:Program} {W:World} {b0:Nat} {T:TypeId} {v:Value} {d:DataW H} {ps:List MemPlace} (ht:P.underlying T=some .string) (hval:Value.okWide P W .any b0 T v) (hd:DataW.Trod enc P W 0 (fun _=>true) true T v d ps):∃ s:ByteArray,v=.string s/\s.size<=maxLen:=by
 obtain ⟨s,h1,_,_,h2⟩:=ChangeMaps.open_string ht hval hd;exact ⟨s,h1,h2⟩
end Go.Gw

end
