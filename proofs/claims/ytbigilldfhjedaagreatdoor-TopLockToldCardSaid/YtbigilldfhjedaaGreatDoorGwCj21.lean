/- Laws of the walk. Condition: each theorem says its own. -/
import Derived.Test.YtbigilldfhjedaaGreatDoorGwCj7
import Derived.Test.YtbigilldfhjedaaGreatDoorGwCore
import Derived.Test.YtbigilldfhjedaaGreatDoorGwLib5
import Derived.Test.YtbigilldfhjedaaGreatDoorGwOpen
import Derived.WalkKit
import Derived.ProofKit
import Derived.OpenShut
import Derived.Carry
import Derived.Deep.DeepHandedRow
import Derived.Lib.LaidTab
import Derived.LaidSub
import Derived.ChangeMaps5
set_option linter.unusedVariables false
set_option linter.unusedSimpArgs false
set_option linter.unusedSectionVars false
open Option renaming map_some→Ea,some→Ed
open List renaming getElem?_eq_getElem→Eb,getElem?_map→Ee
open Bool renaming and_eq_true→Ec
section
set_option linter.unusedVariables false
set_option linter.unusedSectionVars false
namespace Go.Gw
open Go Go.Conc

section
variable {P:Program} [JD P] {n:Nat} {ρ:Env} {w:World}

theorem TS.toBK {ops:List Oper} {S:World->Prop} {m:Nat} {tail:List Nat} {Kt:Env->World->Prop} (hsel:Region.noSelect ops.toArray=true) (hw:Qkd ops.toArray m=true) :
  ∀ (body:List (Nat×Bool)) (listed:Array Bool) (ρ:Env) (w:World),listed.size=ops.toArray.size->Closed ops.toArray listed->J6 listed m=body.length->Qhl ops.toArray m tail body listed=true->S w ->
  TS P n ops S Kt body ρ w ->
  Qdu P ops.toArray S (fun listed a w=>∃ ρ,a=act n ρ/\Qgl ops.toArray tail listed=true/\Kt ρ w) body.length listed (act n ρ) w
 | [],_,ρ,_,_,_,_,hok,_,h=>⟨ρ,rfl,hok,h⟩
 | (i,false)::rest,listed,ρ,w,hls,hcl,hc,hok,hS,h=>by
  simp only [Qhl,Ec,Bool.false_eq_true,if_false] at hok;obtain ⟨⟨him,hf,hr⟩,hrest⟩:=hok;obtain ⟨o,v,hi',hq,ht⟩:=h;have hi:ops.toArray[i]?=some o:=by grind
  have him:i < m:=by simp_all
  have hr:i∈Region.ready .any ops.toArray listed:=by grind
  have hu:=(mem_ready.1 hr).1;have hc':=JP (listed:=listed) him (by omega);refine QGk hi him hw (Region.noSelect_spec hsel) rest.length listed _ w hls hcl (by rw [hc];rfl) (Region.free_spec hi hf) hr hq.yields hS ?_;rw [JA];exact TS.toBK hsel hw rest _ _ w (by grind) (hcl.set hr) (by simp_all) hrest hS ht
 | (i,true)::rest,listed,ρ,w,hls,hcl,hc,hok,hS,h=>by
  simp only [Qhl,Ec,if_true,beq_iff_eq] at hok;obtain ⟨⟨him,hr⟩,hrest⟩:=hok;obtain ⟨o,hi',hs⟩:=h;have hi:ops.toArray[i]?=some o:=by grind
  have him:i < m:=by simp_all
  have hr':i∈Region.ready .any ops.toArray listed:=by grind
  have hu:=(mem_ready.1 hr').1;have hc':=JP (listed:=listed) him (by omega);refine ⟨by grind,fun j hj=>?_⟩;have hj:j=i:=by simp_all
  subst hj;exact hs.toOp hi fun ρ w h'=>⟨h'.1,TS.toBK hsel hw rest _ _ w (by grind) (hcl.set hr') (by simp_all) hrest h'.1 h'.2⟩

theorem QGl {ops:Array Oper} {S:World->Prop} {Kt:Array Bool->Act->World->Prop} {Kf:Act->World->Prop} {j:Nat} (hK:∀ listed a w,Kt listed a w->Qgl ops [j] listed=true/\Kf a w)
  {b:Frame} {k:List Item} {cs:List Frame} {Stop:Goroutine->World->Prop} (hb:b.kind≠.early) (hF:∀ a' w',Kf a' w'->Wlk (JD.j (P:=P)) Stop (G (b.at a' (.inRegion ops [j]::k)) cs) w') :
  ∀ (fuel t:Nat) (listed:Array Bool) (a:Act) (w:World),Qdu P ops S Kt fuel listed a w->Wlk (JD.j (P:=P)) Stop (G (b.at a (.inRegion ops (Region.linearise.go .any ops (fuel+1) t listed [])::k)) cs) w:=by
 intro fuel
 induction fuel with
 | zero =>
  intro t listed a w h;obtain ⟨h1,h2⟩:=hK _ _ _ h;simp only [Qgl,Ec,beq_iff_eq] at h1;have e:Region.linearise.go .any ops (0+1) t listed []=[j]:=by
   rw [show Region.linearise.go .any ops (0+1) t listed []=(match (Region.ready .any ops listed)[t % (Region.ready .any ops listed).length]? with
    | some i=>Region.linearise.go .any ops 0 (t / (Region.ready .any ops listed).length) (listed.setIfInBounds i true) [i]
    | none=>[].reverse) from rfl,h1.1]
   have:t % [j].length=0:=by simp [Nat.mod_one]
   rw [this];rfl
  rw [e];exact hF a w h2
 | succ fuel ih =>
  intro t listed a w h;obtain ⟨h0,h1⟩:=h;rw [show Region.linearise.go .any ops (fuel+1+1) t listed []=(match (Region.ready .any ops listed)[t % (Region.ready .any ops listed).length]? with
   | some i=>Region.linearise.go .any ops (fuel+1) (t / (Region.ready .any ops listed).length) (listed.setIfInBounds i true) [i]
   | none=>[].reverse) from rfl]
  cases hi:(Region.ready .any ops listed)[t % (Region.ready .any ops listed).length]? with
  | none =>
   exfalso;cases hr:Region.ready .any ops listed with
   | nil=>exact h0 hr
   | cons x xs =>
    rw [hr] at hi;have hlt:t % (x::xs).length < (x::xs).length:=Nat.mod_lt _ (by simp);simp at hi;simp at hlt;omega
  | some i =>
   simp only [];rw [linearise_go_acc,List.reverse_singleton,List.singleton_append];exact Qtp (h1 i (List.mem_of_getElem? hi)) hb fun a' w' h'=>ih _ _ a' w' h'.2

end

section
variable {P:Program}
noncomputable def bot (P:Program):Frame:={ (default:Frame) with fn:=P.funcs.size,defers:=[],mode:=.panicking [goexitEntry] }
theorem QWf {f : FuncId} {fn : Func} {c : Code} {caps : Array Value} {w : World} (hf : P.funcs[f]? = some fn) (hname : (fn.name == "runtime.NumGoroutine") = false) (hb : fn.body = some c) :
    stepG P false (born P { target:=.fn (.func f) caps,args:=#[] }) w=.go (G ((baseD f).at { tmps:=caps++Array.replicate (fn.ntmps - caps.size) undef,defers:=[] } [.code c]) [bot P]) w #[]:=by
  have h1 : ¬ fn.name = "runtime.NumGoroutine" := by simp_all
  rw [<-enter_atD caps hf hb];simp [G,born,bot,stepG,unwind,callDeferred,invoke,callFunc,hf,h1,hb,GStep.after,seen_none,goexitEntry]
theorem QTm {f:FuncId} {fn:Func} {a:Act} {todo:List Item} (hf:P.funcs[f]?=some fn) (hr:fn.results=#[]) (hd:a.defers=[]):QuitsD P 2 0 (G { (baseD f).at a todo with mode:=.returning } [bot P]):=by
 refine QuitsD.ctl (g':=G (bot P) []) rfl (fun w=>?_) ?_
 ·simp [G,stepG,unwind,doReturn,results,Frame.at,baseD,bot,hf,hr,hd,seen,GStep.after,goexitEntry]
 refine QuitsD.ctl (g':={ G (bot P) [] with status:=.finished }) rfl (fun w=>?_) ⟨rfl,rfl⟩;simp [G,stepG,unwind,bot,goexitEntry,Frame.catches];rfl
end
end Go.Gw

end
section
set_option linter.unusedVariables false
set_option linter.unusedSectionVars false
namespace Go.Gw
open Go Go.Conc

section
variable {P:Program} [JD P] {n:Nat} {ρ:Env} {w:World} {b:Frame} {kk:List Item} {cs:List Frame} {Stop:Goroutine->World->Prop}
theorem QSt {ops:List Oper} {i:Nat} {rest:List Nat} {o:Oper} {K:Value->World->Prop} (hi:ops[i]?=some o) (hw:XL ops.toArray o n ρ=true) (h:Eff P o n ρ w K) (hb:b.kind≠.early)
  (hK:∀ v w',K v w'->Wlk (JD.j (P:=P)) Stop (G (b.at (act n (Xn ρ o.dst v)) (.inRegion ops.toArray rest::kk)) cs) w'):Wlk (JD.j (P:=P)) Stop (G (b.at (act n ρ) (.inRegion ops.toArray (i::rest)::kk)) cs) w:=by
 have hi':ops.toArray[i]?=some o:=by grind
 have hs:Stp P n ops.toArray o ρ w (fun ρ' w'=>∃ v,ρ'=Xn ρ o.dst v/\K v w'):=by
  unfold Stp;rw [if_pos hw];exact h.mono fun v w' h'=>⟨v,rfl,h'⟩
 refine Qtp (K:=fun a w=>∃ v,a=act n (Xn ρ o.dst v)/\K v w) (hs.toOp hi' fun ρ' w' ⟨v,hv,h'⟩=>⟨v,by rw [hv],h'⟩) hb fun a' w' ⟨v,ha,h'⟩=>?_;simp_all
theorem QIr {o:Oper} {v:Value} {K:Value->World->Prop} (hy:Yl P n ρ o w v) (h:K v w):Eff P o n ρ w K:=⟨hy.1,.inl ⟨v,hy.2,h⟩⟩
theorem QHo {c:Code} {K:Env->World->Prop} (h:WC P n c ⟨K,fun _ _ _=>False,fun _ _=>False⟩ ρ w) (hb:b.kind≠.early)
  (hK:∀ ρ' w',K ρ' w'->Wlk (JD.j (P:=P)) Stop (G (b.at (act n ρ') kk) cs) w'):Wlk (JD.j (P:=P)) Stop (G (b.at (act n ρ) (.code c::kk)) cs) w :=
 h b kk cs Stop hb fun e a' w' q=>by
  cases e<;>first
   | (obtain ⟨ρ',rfl,h'⟩:=q;exact hK ρ' w' h')
   | (obtain ⟨_,_,h'⟩:=q;exact h'.elim)
   | exact q.elim
theorem Qoc {id:Nat} {ops:List Oper} {K:Env->World->Prop} (h:T0 P n ops.toArray K ops ρ w) (hb:b.kind≠.early)
  (hK:∀ ρ' w',K ρ' w'->Wlk (JD.j (P:=P)) Stop (G (b.at (act n ρ') kk) cs) w'):Wlk (JD.j (P:=P)) Stop (G (b.at (act n ρ) (.code (.region id ops.toArray false)::kk)) cs) w :=
 QHo (QC (q:=⟨K,fun _ _ _=>False,fun _ _=>False⟩) h) hb hK
section
variable {J:Jd P}
theorem Qcl {a:Act} {x y:Code} (h:Wlk J Stop (G (b.at a (.code x::.code y::kk)) cs) w):Wlk J Stop (G (b.at a (.code (.seq x y)::kk)) cs) w:=.ctl rfl (fun _=>stepG_seq) h
theorem QVi {a:Act} (h:Wlk J Stop (G (b.at a kk) cs) w):Wlk J Stop (G (b.at a (.code .skip::kk)) cs) w:=.ctl rfl (fun _=>stepG_skip) h
theorem Qxm {a:Act} {i:Nat} {c:Code} (h:Wlk J Stop (G (b.at a (.code c::.inBlock i::kk)) cs) w):Wlk J Stop (G (b.at a (.code (.block i c)::kk)) cs) w:=.ctl rfl (fun _=>stepG_block) h
theorem QMa {a:Act} {i:Nat} (h:Wlk J Stop (G (b.at a kk) cs) w):Wlk J Stop (G (b.at a (.inBlock i::kk)) cs) w:=.ctl rfl (fun _=>stepG_inBlock) h
theorem QOt {a:Act} {c:Code} (h:Wlk J Stop (G (b.at a (.code c::.inLoop c::kk)) cs) w):Wlk J Stop (G (b.at a (.code (.loop c)::kk)) cs) w:=.ctl rfl (fun _=>stepG_loop) h
theorem QMb {a:Act} {c:Code} (h:Wlk J Stop (G (b.at a (.code c::.inLoop c::kk)) cs) w):Wlk J Stop (G (b.at a (.inLoop c::kk)) cs) w:=.ctl rfl (fun _=>stepG_inLoop) h
theorem QJh {a:Act} {id:Nat} {k':List Item} (he:exitTo id kk=some k') (h:Wlk J Stop (G (b.at a k') cs) w):Wlk J Stop (G (b.at a (.code (.exit id)::kk)) cs) w:=.ctl rfl (fun _=>stepG_exit he) h
theorem Qqz {a:Act} {ops:Array Oper} (h:Wlk J Stop (G (b.at a kk) cs) w):Wlk J Stop (G (b.at a (.inRegion ops []::kk)) cs) w:=.ctl rfl (fun _=>stepG_region_end) h
theorem Qod {a:Act} {id:Nat} {ops:Array Oper} (h:Wlk J Stop (G (b.at a (.inRegion ops (List.range ops.size)::kk)) cs) w):Wlk J Stop (G (b.at a (.code (.region id ops false)::kk)) cs) w:=.ctl rfl (fun _=>stepG_region) h
theorem QHr {c:Operand} {x y:Code} {t:Bool} (hc:Qm n ρ c=.bool t) (h:Wlk J Stop (G (b.at (act n ρ) (.code (bif t then x else y)::kk)) cs) w):Wlk J Stop (G (b.at (act n ρ) (.code (.cond c x y)::kk)) cs) w:=by
 refine .ctl rfl (fun _=>stepG_cond (by rw [Qak];exact hc)) ?_
 grind
end
end

section
variable {P:Program} {c:Nat} {S:Goroutine->World->Prop} {Z:Nat->Prop} {orig:Nat->Option Obj} {O:List (Value->World->Prop)} {g:Goroutine} {w w1 w':World}
end

/-! ### Rows -/
def RowAt (w:World) (b:Nat) (cs:List Value):Prop:=∃ e fz,w.heap[b]?=some (.cells cs.toArray e fz)
theorem RowAt.at {w:World} {b:Nat} {cs:List Value} (h:RowAt w b cs):At w ⟨b,0,none⟩ cs:=by
 obtain ⟨e,fz,h⟩:=h
 grind [At.of_block]
theorem Box.row {w:World} {b:Nat} {cs:List Value} {T:TypeId} (h:Box w b cs T):RowAt w b cs:=⟨_,_,h⟩
theorem RowAt.step {L L':List Value} {w w':World} {b:Nat} {cs:List Value} (s:Stepp L w L' w') (hA:Avoids L b) (h:RowAt w b cs):RowAt w' b cs:=by
 obtain ⟨e,fz,h⟩:=h;obtain ⟨⟨fz',h1⟩,_⟩:=s.keeps h hA;exact ⟨e,fz',h1⟩
theorem Qfa {b x:Nat} (h:x≠b):Avoids [pt b] x:=fun y hy e=>by
 simp_all [pt,Qu,List.mem_singleton]
theorem Qne {L:List Value} {b x:Nat} (h:pt b∈L) (hA:Avoids L x):x≠b:=fun e=>hA _ h (by simp [pt,Qu,e])

def CC (w:World) (b8:Nat):Nat->Prop:=fun b=>b≠b8/\∃ cs e fz,w.heap[b]?=some (.cells cs e fz)
structure Inv (w0:World) (b8:Nat) (Z:Nat->Prop) (orig:Nat->Option Obj) (w:World):Prop where
 os:w.os=w0.os
 tape:w.tape=w0.tape
 output:w.output=w0.output
 size:w0.heap.size<=w.heap.size
 old:∀ b,b < w0.heap.size->b≠b8->(Z b->orig b=w0.heap[b]?)/\(¬ Z b->w.heap[b]?=w0.heap[b]?)
 zrow:∀ b,Z b->∃ cs e fz fz',w.heap[b]?=some (.cells cs e fz)/\orig b=some (.cells cs e fz')
 z8:¬ Z b8
 lt8:b8 < w0.heap.size
section
variable {w0 w w1 w':World} {b8:Nat} {Z:Nat->Prop} {orig:Nat->Option Obj} {L:List Value}
theorem Inv.chg {b:Nat} (h:Inv w0 b8 Z orig w) (c:Chg [pt b] w w') (hb:b=b8\/(w0.heap.size<=b/\¬ Z b)):Inv w0 b8 Z orig w':=by
  have hz:∀ x,Z x->x≠b:=fun x hx e=>by
    subst e;rcases hb with rfl | ⟨_,h1⟩
    · exact h.z8 hx
    grind
  refine ⟨c.os.trans h.os,c.tape.trans h.tape,c.output.trans h.output,Nat.le_trans h.size c.size,fun x hx h8=>⟨(h.old x hx h8).1,fun hn=>?_⟩,fun x hx=>?_,h.z8,h.lt8⟩
  · have hne : x ≠ b := fun e => by
      omega
    rw [c.block x (Nat.lt_of_lt_of_le hx h.size) (Qfa hne)];exact (h.old x hx h8).2 hn
  · obtain ⟨cs,e,fz,fz',h1,h2⟩:=h.zrow x hx;exact ⟨cs,e,fz,fz',by rw [c.block x (ZX h1) (Qfa (hz x hx))];exact h1,h2⟩
theorem Inv.ext (h:Inv w0 b8 Z orig w) (c:Ext w w'):Inv w0 b8 Z orig w':=h.chg (b:=b8) (c.mono fun _ h=>by cases h) (.inl rfl)
theorem Inv.rel (h:Inv w0 b8 Z orig w) (r:Rel w w'):Inv w0 b8 Z orig w':=h.ext r.ext
theorem Inv.frz (h:Inv w0 b8 Z orig w) (r:Rel w w1):Inv w0 b8 (fun b=>Z b\/CC w b8 b) (Qbl Z (CC w b8) w1 orig) (Gw.frz (CC w b8) w1):=by
 have h1:=h.rel r;refine ⟨h1.os,h1.tape,h1.output,by rw [Qlh];exact h1.size,fun b hb h8=>⟨fun hz=>?_,fun hn=>?_⟩,fun b hz=>?_,fun hz=>hz.elim h.z8 fun hc=>hc.1 rfl,h.lt8⟩
 ·unfold Qbl;by_cases hZ:Z b
  ·rw [if_pos hZ];exact (h1.old b hb h8).1 hZ
  ·rw [if_neg hZ];exact (h1.old b hb h8).2 hZ
 ·rw [Qbh,(h1.old b hb h8).2 fun e=>hn (.inl e)];simp_all
 ·by_cases hZ:Z b
  ·obtain ⟨cs,e,fz,fz',k1,k2⟩:=h1.zrow b hZ;have k3:Qbl Z (CC w b8) w1 orig b=some (.cells cs e fz'):=by simp_all [if_pos,Qbl]
   grind [Qbh,CC]
  ·have hC:=hz.resolve_left hZ;obtain ⟨_,cs,e,fz,k1⟩:=id hC;have k2:w1.heap[b]?=some (.cells cs e fz):=(r.block b (ZX k1)).trans k1;simp_all [Qbh,Qbl,if_neg]
theorem Inv.stepp (h:Inv w0 b8 Z orig w) (hL:pt b8∈L):Stepp L w0 L w:=⟨fun {b cs e fz} hb hA=>⟨by
 have h8:=Qne hL hA;have hlt:=ZX hb;by_cases hz:Z b
 ·obtain ⟨cs',e',f1,f2,k1,k2⟩:=h.zrow b hz;rw [(h.old b hlt h8).1 hz,hb] at k2;simp_all
 ·exact ⟨fz,by rw [(h.old b hlt h8).2 hz];exact hb⟩,hA⟩⟩
theorem Inv.thaw (h:Inv w0 b8 Z orig w):Chg [pt b8] w0 (Gw.thaw Z orig w):=⟨h.os,h.tape,h.output,by rw [Qvs];exact h.size,fun b hb hA=>by
 have h8:b≠b8:=Qne (L:=[pt b8]) (by simp) hA;rw [Qgn];by_cases hz:Z b
 ·obtain ⟨cs,e,f1,f2,k1,k2⟩:=h.zrow b hz;rw [k1];simp only [Ea,if_pos hz,k2,Option.getD_some];rw [<-(h.old b hb h8).1 hz,k2]
 ·rw [(h.old b hb h8).2 hz];simp [hz]⟩
theorem Inv.thawS (h:Inv w0 b8 Z orig w):Stepp L w L (Gw.thaw Z orig w):=⟨fun {b cs e fz} hb hA=>⟨by
 rw [Qgn,hb];by_cases hz:Z b
 ·obtain ⟨cs',e',f1,f2,k1,k2⟩:=h.zrow b hz;simp_all
 simp_all,hA⟩⟩
theorem Qxs (hL:pt b8∈L) (r:Rel w w1):Stepp L w L (hid (fun b=>Z b\/CC w b8 b) (frz (CC w b8) w1)):=⟨fun {b cs e fz} hb hA=>⟨by
 have hC:CC w b8 b:=⟨Qne hL hA,_,_,_,hb⟩;exact ⟨(0,cs.size),by rw [Qlj,Qbh,r.block b (ZX hb),hb];simp [hC]⟩,hA⟩⟩
theorem QHe (r:Rel w w1):Rows (CC w b8) w1:=fun b hb=>by
 obtain ⟨_,cs,e,fz,h⟩:=hb;exact ⟨cs,e,fz,(r.block b (ZX h)).trans h⟩
theorem Shows.stepp (h:Shows w w'):Stepp L w L w':=⟨fun {b cs e fz} hb hA=>⟨⟨fz,h b cs e fz hb⟩,hA⟩⟩
end

/-! ### The making of a channel -/
end Go.Gw

end
section
set_option linter.unusedVariables false
set_option linter.unusedSectionVars false
namespace Go.Gw
open Go Go.Conc
open Go.ConcN (sumTo)
section
variable {P:Program}
def Qki (P:Program) (f:FuncId) (args:List Value) (w:World) (Φ:Value->World->Prop):Prop:=Wlk (Jm P) (fun g w=>∀ w1,Rel w w1->Qkj P Φ g w1) (G (Frame.enter P f args.toArray .normal) []) w

theorem QYp {b:Frame} {a:Act} {todo:List Item} {fn:Func} {v:Value} {Φ:Value->World->Prop} {w:World} (hn:b.kind=.normal) (hd:a.defers=[]) (hf:P.funcs[b.fn]?=some fn) (ht:Tame P (results fn a.tmps)) (hr:(results fn a.tmps).run P w=.ok v w)
  (hi:P.inits.idxOf? b.fn=none) (hΦ:Φ v w):Qkj P Φ (G { b.at a todo with mode:=.returning } []) w:=by
 refine ⟨rfl,v,hΦ,fun F W hv hA=>?_⟩;have hT:∀ w,(results fn a.tmps).runT P w #[]=((results fn a.tmps).run P w,(results fn a.tmps).events P w #[]):=fun w=>Sem.runT_eq P _ w #[]
 have h0:=hT w;rw [hr] at h0;obtain ⟨F',W',us,h1,h2,_,h4,h5⟩:=frame ht hA hv h0;have h6:=hT W;rw [h1] at h6;have h7:=(Prod.mk.inj h6).1;have h8:=(Prod.mk.inj h6).2;have hW:W'=W:=by
  have e1:W'.heap=W.heap:=by
   apply Array.ext_getElem?;intro i;rcases Nat.lt_or_ge i W.heap.size with hlt | hge
   ·rcases Classical.em (F i) with hF | hF
    ·rw [h2.agr.own i (h2.more i hF) (fun h=>h),hA.own i hF (fun h=>h)]
    ·exact h2.keep i hlt (.inl hF)
   ·have:=h2.agr.size;have:=hA.size;simp_all
  have e2:W'.drawn=W.drawn:=by rw [h2.agr.drawn,hA.drawn]
  obtain ⟨e3,e4,e5⟩:=h2.same;cases W';simp_all
 subst hW;have hF:∀ b,F' b->F b:=fun b hb=>by
  rcases h2.new b hb with h | ⟨h,h'⟩
  ·exact h
  ·omega
 refine ⟨seen P b.fn ((results fn a.tmps).events P W' #[]),?_,fun e he=>?_⟩
 ·simp [G,stepG,unwind,doReturn,Frame.at,hn,hd,hf,<-h7,GStep.after,hi]
 ·have:=mem_seen he;rw [<-h8,h4] at this;have h9:=h5 e (by simp_all);rcases h9 with ⟨ad,k1,k2,k3,k4⟩ | h9
  ·exact .inl ⟨ad,k1,k2,hF _ k3,k4⟩
  ·exact .inr h9
end
section
variable {P:Program} {n:Nat} {w:World}
theorem QYe {f:FuncId} {fn:Func} {c:Code} {args:List Value} {rs:List ResultVar} {r:Bool} [inst:JD P] (hj:inst.j=Jm P) (hi:P.inits.idxOf? f=none) (hf:P.funcs[f]?=some fn) (hb:fn.body=some c) (hn:fn.ntmps=n) (hl:Nat.ble args.length n=true)
    (hr:fn.results=rs.toArray) (hm:Y3 rs n=true)
    (h:WC P n c ⟨fun _ _=>False,fun _ _ _=>False,fun ρ w'=>∃ vs,JU P ρ w' rs vs/\(Ext w w'/\(.bool r)=Jn vs)⟩ (fun i=>args.getD i undef) w):Qki P f args w (fun v w'=>Ext w w'/\(.bool r)=v):=by
  unfold Qki;have hl:args.length<=n:=by simpa using hl
  rw [enter_at _ hf hb,hn,Qfi args n hl,<-hj];refine h (base f) [] [] _ (by simp [base]) fun e a w he=>?_;cases e<;>first
    | exact he.elim
    | (obtain ⟨_,_,hf⟩:=he;exact hf.elim)
    | skip
  obtain ⟨ρ,rfl,vs,hv,hΦ⟩:=he;exact fun todo=>.stop fun w1 r1 w2 r2=>QYp (b:=base f) rfl rfl hf (Qkb hr hm hv) (Qjf hr hm (r1.trans r2) hv) hi ⟨hΦ.1.trans (r1.trans r2).ext,hΦ.2⟩
end
/-! ### The first view -/
def Qgo:Obj->Obj
 | .view ..=>YM
 | o=>o
def view0 (W:World):World:={ W with heap:=W.heap.map Qgo }
def Qjk (W:World):Nat->Prop:=fun b=>∃ o,W.heap[b]?=some o/\Qgo o=o
theorem Qkc {W:World} {b:Nat}:(view0 W).heap[b]?=(W.heap[b]?).map Qgo:=by simp [view0]
theorem QYl {o:Obj} (h:Qgo o≠o):Qgo o=YM:=by
 cases o<;>first | rfl | trivial
theorem QEw (W:World):Agr (Qjk W) (fun _=>False) (view0 W) W:=by
 refine ⟨rfl,rfl,rfl,rfl,by simp [view0],fun b hb _=>?_,fun b _ h=>h.elim,fun b hb hlt=>?_,fun b h=>h.elim⟩
 ·obtain ⟨o,h1,h2⟩:=hb
  grind [Qkc]
 ·have hlt':b < W.heap.size:=by grind [view0]
  rw [Qkc,Array.getElem?_eq_getElem hlt'];simp only [Ea,Ed.injEq];exact QYl fun h=>hb ⟨_,Array.getElem?_eq_getElem hlt',h⟩
theorem QYr (W:World):NoView (view0 W):=fun b a u e=>by
 rw [Qkc] at e;cases h:W.heap[b]? with
 | none=>simp_all
 | some o =>
  rw [h] at e;simp only [Ea,Ed.injEq] at e;cases o<;>simp [Qgo,YM] at e
theorem Qvx {L:List Value} (W:World):Stepp L W L (view0 W):=⟨fun {b cs e fz} hb hA=>⟨⟨fz,by rw [Qkc,hb];rfl⟩,hA⟩⟩
theorem QYq {P:Program} (W:World) (g:Goroutine):MI P (fun _=>False) (Qjk W) (view0 W) #[g] W #[] (fun _=>0):=by
 refine ⟨QEw W,QYr W,fun b hb=>?_,fun l ad _ _ h=>h,fun l ad _ h=>h.elim,⟨fun said h=>?_,fun i a h=>?_,fun e g h=>?_,rfl,fun op h=>by simp at h⟩,⟨fun i x hi hx=>?_,fun j _=>rfl⟩⟩
 ·obtain ⟨o,h,_⟩:=hb
  grind
 ·obtain ⟨i,j,_,⟨a,b,h1,_⟩,_⟩:=h;trivial
 ·trivial
 ·trivial
 grind
theorem QJi {W W' w':World} {F':Nat->Prop} (he:Ext (view0 W) w') (hA:Agr F' (fun _=>False) w' W') (hw:Went (Qjk W) W F' W'):Ext W W':=by
 refine ⟨hw.same.2.1,hw.same.1,hw.same.2.2,hw.size,fun b hb _=>?_⟩;rcases Classical.em (Qjk W b) with h | h
 ·rw [hA.own b (hw.more b h) (fun h=>h),he.block b (by grind [view0]) (Avoids.nil _)];exact ((QEw W).own b h (fun h=>h)).symm
 ·exact hw.keep b hb h
theorem QCr {P:Program}:∀ (N:Nat) (m m':Machine) (t t':Trace),runNT P N m t=(.next m',t')->runN P N m=.next m'
 | 0,m,m',t,t',h=>by simp only [runNT] at h;cases h;rfl
 | N+1,m,m',t,t',h=>by
  simp only [runNT] at h;simp only [runN,step];cases hs:stepT P m with
  | mk s ops =>
   rw [hs] at h;cases s with
   | next m1=>exact QCr N m1 m' _ t' h
   | ended o w=>simp at h
theorem QYg {P:Program} {f:FuncId} {args:List Value} {W:World} {r:Bool} (h:Qki P f args (view0 W) (fun v w'=>Ext (view0 W) w'/\(.bool r)=v)) :
  ∃ M last o W' t',runNT P (M+1) (solo (G (Frame.enter P f args.toArray .normal) []) W) #[]=(.ended o W',t')/\runN P M (solo (G (Frame.enter P f args.toArray .normal) []) W)=.next last/\step P last=.ended o W' /\
   Conc.Good P (fun v W'=>v=.bool r/\Ext W W') last o W' t':=by
 obtain ⟨N,gs',W1,sl',t1,h1,Sh',g',F1,w1,q1,h2,h3,h4,h5⟩:=QPc h (view0 W) (Rel.refl _) (fun _=>False) (Qjk W) #[G (Frame.enter P f args.toArray .normal) []] W none #[] (fun _=>0) (QYq W _) rfl;obtain ⟨n,last,o,W',t',k1,k2,k3,k4⟩:=QPb (sumTo gs'.size q1) gs' W1 sl' t1 q1 (Nat.le_refl _) h4 h2 h3;refine ⟨N+n,last,o,W',t',?_,?_,k3,k4.mono fun v hp=>?_⟩
 ·have:=Qud N (n+1) _ _ _ _ h1;rw [Nat.add_assoc];exact this.trans k1
 ·rw [runN_add,show runN P N (solo (G (Frame.enter P f args.toArray .normal) []) W)=_ from QCr N _ _ _ _ h1];exact k2
 ·obtain ⟨F2,w2,⟨p1,p2⟩,p3,p4,p5⟩:=hp;exact ⟨p2.symm,QJi p1 p4 (h5.trans p5)⟩
end Go.Gw

end
section
namespace Go.Gw
open Go Go.ChangeShapes Go.WideShapes Go.RowKit

def Qjd (P:Program) (ts:List TypeId):Bool:=ts.all fun t=>P.readableRec t&&decide (t < P.types.size)
theorem QEt {H:Type} {enc:TypeId×Value->H} {P:Program} (hl:laidOutB P=true) {W W':World} (hb:Below W.heap.size W W'):∀ {ts:List TypeId} {vs:List Value} {ds:List (DataW H)} {ps:List MemPlace},Qjd P ts=true ->
  DataW.TrodAll enc P W 0 (fun _=>true) true ts vs ds ps->(∀ x∈ps,x.block < W.heap.size)->DataW.TrodAll enc P W' 0 (fun b=>decide (b < W.heap.size)) true ts vs ds ps
 | [],vs,ds,ps,_,h,_=>by
  obtain ⟨rfl,rfl,rfl⟩:=trodAll_nil h;rfl
 | t::ts,vs,ds,ps,hr,h,hlt=>by
  simp only [Qjd,List.all_cons,Ec,decide_eq_true_eq] at hr;obtain ⟨v,vs',d,ds',p,q,rfl,rfl,rfl,h1,h2⟩:=trodAll_cons h;exact ⟨p,q,Below.trod hl hr.1.1 hr.1.2 h1 hb (fun x hx=>hlt x (List.mem_append_left _ hx)),QEt hl hb (by simpa [Qjd] using hr.2) h2 (fun x hx=>hlt x (List.mem_append_right _ hx)),rfl⟩

theorem QMx {H:Type} {enc:TypeId×Value->H} {P:Program} {f:Func} {s:ChangeSpec} {W W':World} {args:Array Value} {ds gs:List (DataW H)} {before:List MemPlace} {B:TypeId} (hl:laidOutB P=true) (hr:Qjd P f.params.toList=true)
  (hW:DataW.Whole enc P f.params.toList s.vars false W args.toList ds gs before) (hv:s.vars=[]) (hres:(s.fn H (ds++gs)).results=[.lit (.bool true)]) (hargs:(s.fn H (ds++gs)).args=ds) (hvars:(s.fn H (ds++gs)).vars=[])
  (hrt:f.resultTypes=#[B]) (hB:P.underlying B=some .bool) (he:Ext W W'):s.post enc P f false true false false W args (.bool true) W':=by
 have hlt:=hW.lt;have hW':=hW;obtain ⟨p,q,hA,hV,rfl,hfz,hnd⟩:=hW;rw [hv] at hV;obtain ⟨rfl,rfl⟩:=trodVars_none hV;refine ⟨ds,[],p++[],[],p,[],hW',?_,?_,?_,?_,fun h=>by cases h⟩
 ·rw [hres,hrt];exact trodAll_cons_mk (shut_bool hB _) trodAll_mk0
 ·rw [hargs];exact QEt hl he.below hr hA (fun x hx=>hlt x (by simpa using hx))
 ·rw [hvars,hv];rfl
 ·exact he.below.frame _

/-! ### Arguments -/
section
variable {H:Type} {enc:TypeId×Value->H} {P:Program} {W:World} {b0:Nat} {T:TypeId} {v:Value} {d:DataW H} {ps:List MemPlace}
theorem QGo {α:Type} [Rep α] {V:α->Prop} {fs:Array Field} (ho:ZC P T α V) (ht:P.underlying T=some (.struct fs)) (hval:Value.okWide P W .any b0 T v) (hd:DataW.Trod enc P W 0 (fun _=>true) true T v d ps) :
  ∃ (cs:List Value) (x:α),v=.agg cs.toArray/\Rep.rd [] W cs x/\V x:=by
 unfold Value.okWide at hval;rw [ht] at hval;obtain ⟨cs,rfl,_⟩:=hval;obtain ⟨fuel,hf⟩:=hd;obtain ⟨x,h1,h2⟩:=ho.2 enc W fuel _ _ hf;exact ⟨cs.toList,x,by simp,h1,h2⟩
theorem QGp {α:Type} [Rep α] {V:α->Prop} {m e:Nat} (ho:ZC P T α V) (ht:P.underlying T=some (.array m e)) (hval:Value.okWide P W .any b0 T v) (hd:DataW.Trod enc P W 0 (fun _=>true) true T v d ps) :
  ∃ (cs:List Value) (x:α),v=.agg cs.toArray/\Rep.rd [] W cs x/\V x:=by
 unfold Value.okWide at hval;rw [ht] at hval;obtain ⟨cs,rfl,_⟩:=hval;obtain ⟨fuel,hf⟩:=hd;obtain ⟨x,h1,h2⟩:=ho.2 enc W fuel _ _ hf;exact ⟨cs.toList,x,by simp,h1,h2⟩
theorem QGq {α:Type} [Rep α] {V:List α->Prop} {e:TypeId} (ho:ZC P T (List α) V) (ht:P.underlying T=some (.slice e)) (hval:Value.okWide P W .any b0 T v) (hd:DataW.Trod enc P W 0 (fun _=>true) true T v d ps) :
  ∃ (x:List α),SlRd [] W v x/\V x:=by
 have hv:∃ a n c,v=.slice a n c:=by
  unfold Value.okWide Cell.okWide Cell.ok at hval;rw [ht] at hval;cases v with
  | slice a n c=>exact ⟨a,n,c,rfl⟩
  | _=>exact hval.elim
 obtain ⟨a,n,c,rfl⟩:=hv;obtain ⟨fuel,hf⟩:=hd;obtain ⟨x,h1,h2⟩:=ho.2 enc W fuel _ _ hf;obtain ⟨v',h3,h4⟩:=h1;have:v'=.slice a n c:=by
  have h5:[Value.slice a n c]=[v']:=h3;simpa using h5.symm
 subst this;exact ⟨x,h4,h2⟩
end
end Go.Gw

end
section
namespace Go.Gw
open Go
theorem At.view0 {W:World} {a:Addr} {cs:List Value} (h:At W a cs):At (view0 W) a cs:=by
 refine ⟨h.1,fun j v hv=>?_⟩;have h1:=h.2 j v hv;unfold World.cell? at h1 ⊢;rw [Qkc];cases hb:W.heap[(a.add j).block]? with
 | none=>rw [hb] at h1;exact h1
 | some o =>
  rw [hb] at h1;cases o<;>first | exact h1 | cases h1
end Go.Gw

end
section
namespace Go.Gw
open Go
end Go.Gw

end
section
namespace Go.Gw
open Go
theorem QWx {P:Program} {W:World} {t e n fuel:Nat} {cs:List Value} {ss:List ByteArray} {q:List MemPlace} (ht:P.underlying t=some (.array n e)) (he:P.underlying e=some .string) (hce:P.cellsOf e=1)
  (h:DataW.trod (fun _=>()) P W 0 (fun _=>true) false fuel t cs=some (.agg (ss.map fun s=>.lit (.string s.data.toList)),q)):∀ j (hj:j < ss.length),cs[j]?=some (.string ss[j]):=by
 obtain ⟨xs,m,_,hx,_,hl,hi⟩:=DataW.trod_array ht h;have h1:=(Prod.mk.inj hx).1;have h2:(ss.map fun s=>(DataW.lit (.string s.data.toList):DataW Unit))=xs.map (·.1):=DataW.agg.inj h1;have h3:=congrArg List.length h2;rw [List.length_map,List.length_map] at h3;intro j hj;have h4:=hi j (by omega);rw [hce,Nat.mul_one,Eb (show j < xs.length by omega)] at h4;obtain ⟨s,k1,k2,_⟩:=DataW.trod_string he h4;have h5:(ss.map fun s=>(DataW.lit (.string s.data.toList):DataW Unit))[j]?=(xs.map (·.1))[j]?:=by rw [h2]
 rw [Ee,Ee,Eb hj,Eb (show j < xs.length by omega),Ea,Ea,k2] at h5;have h6:(ss[j]).data.toList=s.data.toList:=by
  have:=Ed.inj h5;simp only [DataW.lit.injEq,Lit.string.injEq] at this;exact this
 have h7:ss[j]=s:=by
  cases hs:ss[j] with
  | mk a =>
   cases s with
   | mk b =>
    rw [hs] at h6;congr 1;exact Array.toList_inj.1 h6
 rw [h7];have h8:(cs.drop j)[0]?=some (.string s):=by
  cases hd:cs.drop j with
  | nil=>rw [hd] at k1;cases k1
  | cons a r=>rw [hd] at k1;cases k1;rfl
 rw [List.getElem?_drop,Nat.add_zero] at h8;exact h8
theorem QMt {P:Program} {W:World} {l:List (String×DataW Unit)} {name:String} {d:DataW Unit} {ss:List ByteArray} {g t e n:Nat} (hf:l.filter (fun x=>x.1 == name)=[(name,d)]) (hdn:d.handleName?=none) (hd:d=.agg (ss.map fun s=>.lit (.string s.data.toList))) (hg:P.globalNamed name=some g) (hty:(P.globals[g]?).map (·.type)=some t) (ht:P.underlying t=some (.array n e)) (he:P.underlying e=some .string) (hce:P.cellsOf e=1) (h:laidMetH P l W) :
  At (Gw.view0 W) ⟨g,0,none⟩ (ss.map Value.string):=by
 have h1:=laidMetH.filter (fun x=>x.1 == name) h;rw [hf] at h1;have h2:laidMet P [(name,d)] W:=by simpa [laidMetH,hdn] using h1
 obtain ⟨ps,⟨g',t',cs,fuel,p,q,hg',ht',hvar,hr,_,_⟩,_⟩:=h2;obtain rfl:=Ed.inj (hg.symm.trans hg');obtain rfl:=Ed.inj (hty.symm.trans ht');rw [hd] at hr;have h3:=QWx ht he hce hr;refine At.view0 ⟨rfl,fun j u hu=>?_⟩;rw [Ee] at hu;obtain ⟨s,hs,rfl⟩:=Option.map_eq_some_iff.1 hu;obtain ⟨hj,rfl⟩:=List.getElem?_eq_some_iff.1 hs;have h4:=World.var?_cell hg hvar j;rw [YP,Nat.zero_add];rw [h4,<-Array.getElem?_toList];exact h3 j hj
end Go.Gw

end
