/- Laws of the walk. Condition: each theorem says its own. -/
import Derived.Test.YtjladlhgnoiagaaGreatDoorGwCloseRow
import Derived.Conc.Beside
import Derived.Conc.LeavingOf
set_option linter.unusedVariables false
set_option linter.unusedSimpArgs false
set_option linter.unusedSectionVars false
open Array renaming getElem?_eq_some_iff→Ea,getElem?_setIfInBounds_ne→Eb,getElem?_eq_getElem→Ed,getElem?_mapIdx→Ei,ext_getElem?→Ej,append_assoc→Ek,size_setIfInBounds→El,mem_zipIdx_iff_getElem?→Eo,mem_append→Ep,mem_iff_getElem→Eq_,mem_toList_iff→Er,append_empty→Es,getElem?_map→Et,empty_append→Eu
open Option renaming map_eq_some_iff→Ec,map_some→Eg,some→Eh,map→Ev
open Nat renaming lt_of_lt_of_le→Ee,le_trans→Em,le_refl→En
open Go.Gw.Rel renaming refl→Ef
section
set_option linter.unusedVariables false
namespace Go.Gw
open Go Go.Conc

/-! ### Ranks -/
inductive Tr where
 | leaf
 | mk (f:World->Tr)
def Tr.sub (x y:Tr):Prop:=∃ f w,y=.mk f/\x=f w
theorem Tr.acc (t:Tr):Acc Tr.sub t:=by
 induction t with
 | leaf=>exact ⟨_,fun y ⟨f,w,h,_⟩=>by cases h⟩
 | mk f ih=>exact ⟨_,fun y ⟨g,w,h,e⟩=>by simp_all⟩
def nt:Nat->Tr
 | 0=>.leaf
 | n+1=>.mk fun _=>nt n
theorem QEi (n:Nat):Tr.sub (nt n) (nt (n+1)):=⟨_,default,rfl,rfl⟩
def Qdw (l' l:List Tr):Prop:=∃ i x y,l[i]?=some x/\Tr.sub y x/\l'=l.set i y
theorem Qtm:∀ x:Tr,∀ l:List Tr,Acc Qdw l->Acc Qdw (x::l):=fun x=>by
 induction Tr.acc x with
 | intro x _ ihx =>
  intro l hl
  induction hl with
  | intro l hl ihl =>
   refine ⟨_,fun l' ⟨i,a,b,h1,h2,h3⟩=>?_⟩;subst h3;cases i with
   | zero=>cases h1;exact ihx b h2 l ⟨l,hl⟩
   | succ i=>exact ihl _ ⟨i,a,b,by grind,h2,rfl⟩
theorem Qcf:∀ l:List Tr,Acc Qdw l
 | []=>⟨_,fun l' ⟨i,a,b,h1,_⟩=>by simp at h1⟩
 | x::l=>Qtm x l (Qcf l)

/-! ### At the channel -/
section
variable {P:Program} {gs:Array Goroutine} {w w':World} {sl:Option (Nat×Nat)}
abbrev fin0:Goroutine:={ (default:Goroutine) with status:=.finished }
theorem Qjx {i:Nat} {g g':Goroutine} {cs:Array CommCase} {bl:Bool} {sh:CommShape} {es:Array Event} (hi:gs[i]?=some g) (h:stepG P (i == 0) g w=.comm g' cs bl sh w' es) :
  runT P (crowd gs w sl) i=((communicate P { timers:=#[],alone:=none,slice:=sl } (gs.setIfInBounds i fin0) i g' cs bl sh w').1,
   MemOp.ofEvents i g.frame.fn g.frame.place es++(communicate P { timers:=#[],alone:=none,slice:=sl } (gs.setIfInBounds i fin0) i g' cs bl sh w').2):=by
 obtain ⟨hlt,rfl⟩:=Ea.1 hi;have hsw:=swapAt_of_lt hlt fin0;have e:gs.set i fin0=gs.setIfInBounds i fin0:=by grind
 show runT P { world:=w,gs:=gs,rest:={ timers:=#[],alone:=none,slice:=sl } } i=_
 grind [GStep.es,runT]

def JH (c:Nat) (gs:Array Goroutine):Prop:=∀ (i:Nat) (g:Goroutine),gs[i]?=some g->g.status≠.blocked\/(∃ g2 v z,g=parked g2 #[scase c v z] .send)\/∃ g2 z,g=parked g2 #[rcase c z] (.recv false)
theorem Qqd {c h k:Nat} (hF:JH c gs):(h,k)∈partners gs c true↔k=0/\∃ g2 v z,gs[h]?=some (parked g2 #[scase c v z] .send):=by
  unfold partners;rw [List.mem_flatMap];constructor
  · rintro ⟨⟨g,i⟩,hm,hx⟩;have hgi:gs[i]?=some g:=by
      grind
    rcases hF i g hgi with hb | ⟨g2,v,z,rfl⟩ | ⟨g2,z,rfl⟩
    · simp_all
    · grind [parked,scase]
    trivial
  · rintro ⟨rfl,g2,v,z,hg⟩;refine ⟨(parked g2 #[scase c v z] .send,h),Er.2 (by grind [Eo]),?_⟩;simp [parked,scase]
theorem Qjr {c h k:Nat} (hF:JH c gs):(h,k)∈partners gs c false↔k=0/\∃ g2 z,gs[h]?=some (parked g2 #[rcase c z] (.recv false)):=by
  unfold partners;rw [List.mem_flatMap];constructor
  · rintro ⟨⟨g,i⟩,hm,hx⟩;have hgi:gs[i]?=some g:=by
      grind
    rcases hF i g hgi with hb | ⟨g2,v,z,rfl⟩ | ⟨g2,z,rfl⟩
    · simp_all
    · trivial
    grind [parked,rcase]
  · rintro ⟨rfl,g2,z,hg⟩;refine ⟨(parked g2 #[rcase c z] (.recv false),h),Er.2 (by grind [Eo]),?_⟩;simp [parked,rcase]

variable {c s r:Nat} {z v:Value} {i:Nat} {g:Goroutine} {rest:Rest}
theorem Qvc (hc:w.heap[c]?=some (.chan 0 #[] false s r false)) (hp:partners gs c true=[]) (ht:rest.timers=#[]) :
  communicate P rest gs i g #[rcase c z] true (.recv false) w=(.next { world:=w,gs:=gs.setIfInBounds i (parked g #[rcase c z] (.recv false)),rest },#[]):=by
 grind [communicate,ways,rcase,waitingAt,timerAhead,parked]
theorem Qve (hc:w.heap[c]?=some (.chan 0 #[] false s r false)) (hp:partners gs c false=[]) (ht:rest.timers=#[]) :
  communicate P rest gs i g #[scase c v z] true .send w=(.next { world:=w,gs:=gs.setIfInBounds i (parked g #[scase c v z] .send),rest },#[]):=by
 grind [communicate,ways,scase,waitingAt,timerAhead,parked]

theorem Qqf (n:Nat) (what:String) (w:World) (hn:0 < n):∃ (b:Nat) (d:Nat),b < n/\(choose (.extern what n)).run P w=.ok b (w.at d):=by
 by_cases h1:n=1
 ·subst h1;exact ⟨0,w.drawn,by omega,by rfl⟩
 ·refine ⟨w.tape w.drawn (.extern what n) % n,w.drawn+1,Nat.mod_lt _ hn,?_⟩
  grind [choose,Sem.run,Question.forced,Question.cut,World.at]
theorem Qvb (hc:w.heap[c]?=some (.chan 0 #[] false s r false)) (hF:JH c gs) (hp:partners gs c true≠[]) :
    ∃ (d h:Nat) (g2:Goroutine) (v z':Value),gs[h]?=some (parked g2 #[scase c v z'] .send) /\
      communicate P rest gs i g #[rcase c z] true (.recv false) w=(.next { world:=(w.passed c s r false).at d,gs:=(gs.setIfInBounds h (Conc.served g2 undef)).setIfInBounds i (Conc.served g v),rest },
        #[{ g:=h,fn:=g2.frame.fn,pos:=g2.frame.place,act:=.send c s },{ g:=i,fn:=g.frame.fn,pos:=g.frame.place,act:=.recv c r 0 },
          { g:=h,fn:=g2.frame.fn,pos:=g2.frame.place,act:=.sendDone c s },{ g:=i,fn:=g.frame.fn,pos:=g.frame.place,act:=.recvDone c r }]):=by
  obtain ⟨⟨h0,k0⟩,ps,hps⟩:=List.exists_cons_of_ne_nil hp
  obtain ⟨b, d, hb, hch⟩ := Qqf (P := P) (partners gs c true).length "which waiting goroutine is the partner" w (by grind)
  have hmem:(partners gs c true)[b]∈partners gs c true:=List.getElem_mem hb;generalize hx:(partners gs c true)[b]=x at hmem;obtain ⟨h,k⟩:=x;obtain ⟨rfl,g2,v,z',hg⟩:=(Qqd hF).1 hmem;refine ⟨d,h,g2,v,z',hg,?_⟩;have hlt:h < gs.size:=(Ea.1 hg).1;have hways:ways w gs (rcase c z)=(partners gs c true).map fun (h,k)=>Way.partner h k:=by
    simp_all [ways,rcase,Array.size_empty,Nat.lt_irrefl,if_false,gt_iff_lt]
  have hne:((partners gs c true).map fun (h,k)=>Way.partner h k).isEmpty=false:=by grind
  have hget:((partners gs c true).map fun (h,k)=>Way.partner h k).getD b .closed=.partner h 0:=by
    grind
  have hlen:((partners gs c true).map fun (h,k)=>Way.partner h k).length=(partners gs c true).length:=by simp
  have hgd:gs.getD h default=parked g2 #[scase c v z'] .send:=by simp_all
  have hoff:offeredValue gs h 0=v:=by simp [offeredValue,hg,parked,scase]
  have hfin:finishPartner P gs h 0 undef=gs.setIfInBounds h (Conc.served g2 undef):=by
    apply Ej;intro j;by_cases hj:h=j
    · grind [finishPartner,parked,scase,Goroutine.finishComm,Conc.served,commResult,Ea]
    grind [finishPartner,Eb]
  have hsel:(choose (.select 1)).run P w=.ok 0 w:=by rfl
  have hc':(w.at d).heap[c]?=some (.chan 0 #[] false s r false):=hc;have hfr:(parked g2 #[scase c v z'] .send).frame=g2.frame:=rfl;have hready:((#[rcase c z].zipIdx.toList.map fun (c,k)=>(k,c,ways w gs c)).filter fun (_,_,ws)=>!ws.isEmpty)=[(0,rcase c z,(partners gs c true).map fun (h,k)=>Way.partner h k)]:=by
    simp_all
  have hill:(#[rcase c z].any fun c=>match c.chan with | .chan none=>false | .chan (some r)=>!(w.heap[r]? matches some (.chan ..)) | _=>true)=false:=by simp [rcase,hc]
  unfold communicate;simp only [hready,Bool.false_eq_true,if_false,List.isEmpty_cons,Sem.run_bind,List.length_singleton,hsel,Result.andThen,List.getD_cons_zero,hlen,hch,hget,Sem.run_pure];simp only [rcase,World.passed,World.at,Goroutine.finishComm,commResult];simp [hc];rw [hfin,hoff];exact ⟨rfl,by simp_all,by simp_all⟩
theorem Qvd (hc:w.heap[c]?=some (.chan 0 #[] false s r false)) (hF:JH c gs) (hp:partners gs c false≠[]) :
    ∃ (d h:Nat) (g2:Goroutine) (z':Value),gs[h]?=some (parked g2 #[rcase c z'] (.recv false)) /\
      communicate P rest gs i g #[scase c v z] true .send w=(.next { world:=(w.passed c s r false).at d,gs:=(gs.setIfInBounds h (Conc.served g2 v)).setIfInBounds i (Conc.served g undef),rest },
        #[{ g:=i,fn:=g.frame.fn,pos:=g.frame.place,act:=.send c s },{ g:=h,fn:=g2.frame.fn,pos:=g2.frame.place,act:=.recv c r 0 },
          { g:=i,fn:=g.frame.fn,pos:=g.frame.place,act:=.sendDone c s },{ g:=h,fn:=g2.frame.fn,pos:=g2.frame.place,act:=.recvDone c r }]):=by
  obtain ⟨⟨h0,k0⟩,ps,hps⟩:=List.exists_cons_of_ne_nil hp
  obtain ⟨b, d, hb, hch⟩ := Qqf (P := P) (partners gs c false).length "which waiting goroutine is the partner" w (by grind)
  have hmem:(partners gs c false)[b]∈partners gs c false:=List.getElem_mem hb;generalize hx:(partners gs c false)[b]=x at hmem;obtain ⟨h,k⟩:=x;obtain ⟨rfl,g2,z',hg⟩:=(Qjr hF).1 hmem;refine ⟨d,h,g2,z',hg,?_⟩;have hlt:h < gs.size:=(Ea.1 hg).1;have hways:ways w gs (scase c v z)=(partners gs c false).map fun (h,k)=>Way.partner h k:=by
    simp_all [ways,scase,Array.size_empty,Nat.lt_irrefl,if_false,gt_iff_lt,Bool.false_eq_true]
  have hne:((partners gs c false).map fun (h,k)=>Way.partner h k).isEmpty=false:=by grind
  have hget:((partners gs c false).map fun (h,k)=>Way.partner h k).getD b .closed=.partner h 0:=by
    grind
  have hlen:((partners gs c false).map fun (h,k)=>Way.partner h k).length=(partners gs c false).length:=by simp
  have hgd:gs.getD h default=parked g2 #[rcase c z'] (.recv false):=by simp_all
  have hfin:finishPartner P gs h 0 v=gs.setIfInBounds h (Conc.served g2 v):=by
    apply Ej;intro j;by_cases hj:h=j
    · grind [finishPartner,parked,rcase,Goroutine.finishComm,Conc.served,commResult,Ea]
    grind [finishPartner,Eb]
  have hsel:(choose (.select 1)).run P w=.ok 0 w:=by rfl
  have hfr:(parked g2 #[rcase c z'] (.recv false)).frame=g2.frame:=rfl;have hready:((#[scase c v z].zipIdx.toList.map fun (c,k)=>(k,c,ways w gs c)).filter fun (_,_,ws)=>!ws.isEmpty)=[(0,scase c v z,(partners gs c false).map fun (h,k)=>Way.partner h k)]:=by
    simp_all
  have hill:(#[scase c v z].any fun c=>match c.chan with | .chan none=>false | .chan (some r)=>!(w.heap[r]? matches some (.chan ..)) | _=>true)=false:=by simp [scase,hc]
  unfold communicate;simp only [hready,Bool.false_eq_true,if_false,List.isEmpty_cons,Sem.run_bind,List.length_singleton,hsel,Result.andThen,List.getD_cons_zero,hlen,hch,hget,Sem.run_pure];simp only [scase,World.passed,World.at,Goroutine.finishComm,commResult];simp [hc];rw [hfin];exact ⟨rfl,by simp_all,by simp_all⟩
end
end Go.Gw

end
section
set_option linter.unusedVariables false
namespace Go.Gw
open Go Go.Conc
open Go.ConcR (deafBehind_cons deafBehind_one)

structure View where
 F:Nat->Prop
 Z:Nat->Prop
 w:World
def Apart (x y:View):Prop:=∀ b,x.F b->y.F b->x.Z b/\y.Z b
theorem Apart.symm {x y:View} (h:Apart x y):Apart y x:=fun b hy hx=>(h b hx hy).symm
structure Seen (c:Nat) (x:View) (W:World) (t:Trace) (i:Nat):Prop where
 agr:Agr x.F x.Z x.w W
 nov:NoView x.w
 bnd:∀ b,x.F b->b < W.heap.size
 chan:¬ x.F c
 own:∀ e a ad,touchAt t e=some a->AtL a.loc ad->x.F ad.block->¬ x.Z ad.block->Knows t i e
 shr:∀ e a ad,touchAt t e=some a->AtL a.loc ad->x.Z ad.block->a.write=true->Knows t i e
 deaf:Deaf t i=0
structure PI (Sh:Loc->Prop) (c:Nat) (vs:Nat->Option View) (n:Nat) (W:World) (t:Trace):Prop where
 seen:∀ i x,vs i=some x->i < n/\Seen c x W t i
 apart:∀ i j x y,i≠j->vs i=some x->vs j=some y->Apart x y
 chan:∃ s,W.heap[c]?=some (.chan 0 #[] false s s false)
 clean:∀ said,¬ Race said t
 known:∀ e a,touchAt t e=some a->a.loc.isMemory=true->Knows t 0 e\/(Sh a.loc/\a.kind=.atomic)\/∃ j,(vs j).isSome=true/\Knows t j e
 over:∀ e g,t.g? e=some g->g≠0->t.counts e->(∃ j,t.g? j=some 0/\HappensBefore t e j)\/∃ j,(vs j).isSome=true/\Knows t j e
 above:∀ j,n<=j->Deaf t j=0
 low:∀ op∈t,op.act.low W.heap.size
 mono:∀ i x x0,vs i=some x->vs 0=some x0->∀ b,x.Z b->x0.F b

def ZJ (W:World) (x:View):View:={ x with w:={ x.w with heap:=x.w.heap++Array.replicate (W.heap.size - x.w.heap.size) Yw,drawn:=W.drawn } }
theorem Qbo {W:World} {x:View}:Rel x.w (ZJ W x).w:=by
 refine ⟨rfl,rfl,rfl,by simp [ZJ],fun b hb=>?_,fun b h1 h2=>?_⟩
 ·grind [Array.getElem?_append_left,ZJ]
 simp_all [ZJ,Array.size_append,Array.size_replicate,Array.getElem?_append_right,Array.getElem?_replicate,if_pos]
theorem Agr.cut {F Z:Nat->Prop} {w W:World} (h:Agr F Z w W):Agr (fun b=>F b/\b < W.heap.size) Z w W :=
 ⟨h.tape,h.drawn,h.os,h.output,h.size,fun b hb hz=>h.own b hb.1 hz,fun b hb hz=>h.shr b hb.1 hz,fun b hb hlt=>h.hid b (fun hF=>hb ⟨hF,by rw [h.size];exact hlt⟩) hlt,fun b hz=>⟨h.zf b hz,by
  obtain ⟨cs,e,fz,h1,_⟩:=h.shr b (h.zf b hz) hz
  grind⟩⟩
theorem Agr.grown {F Z:Nat->Prop} {w W W':World} (h:Agr F Z w W) (x:View) (hx:x=⟨F,Z,w⟩) (hb:∀ b,F b->b < W.heap.size) (hs:W.heap.size<=W'.heap.size) (ht:W'.tape=W.tape) (ho:W'.os=W.os) (hou:W'.output=W.output)
  (hk:∀ b,F b->W'.heap[b]?=W.heap[b]?):Agr F Z (ZJ W' x).w W':=by
 subst hx;have hsz:(ZJ W' ⟨F,Z,w⟩).w.heap.size=W'.heap.size:=by
  have:=h.size;simp [ZJ];omega
 have hold:∀ b,b < w.heap.size->(ZJ W' ⟨F,Z,w⟩).w.heap[b]?=w.heap[b]?:=fun b hb=>(Qbo (W:=W') (x:=⟨F,Z,w⟩)).block b hb
 refine ⟨ht.trans h.tape,rfl,ho.trans h.os,hou.trans h.output,hsz.symm,fun b hF hz=>?_,fun b hF hz=>?_,fun b hF hlt=>?_,h.zf⟩
 ·rw [hold b (by rw [<-h.size];grind),hk b hF];exact h.own b hF hz
 ·obtain ⟨cs,e,fz,h1,h2⟩:=h.shr b hF hz
  grind
 ·rcases Nat.lt_or_ge b w.heap.size with h1 | h1
  ·rw [hold b h1];exact h.hid b hF h1
  ·exact (Qbo (W:=W') (x:=⟨F,Z,w⟩)).fresh b h1 hlt

/-! ### What a step may list -/
theorem Qid {F Z:Nat->Prop} {e:Event} (h:EvOk F Z e) {b:Touch} (hb:(MemAct.ofEvent e).touch?=some b):∃ ad,AtL b.loc ad/\F ad.block/\(b.write=true->¬ Z ad.block)/\b.kind=.plain:=by
 obtain ⟨loc,wr,sy⟩:=e;rcases h with ⟨a,h1,h2,h3,h4⟩ | h1
 ·simp only at h1 h2 h4;subst h2;cases h1 with
  | cell a =>
   simp only [MemAct.ofEvent,MemAct.touch?] at hb;cases hb;exact ⟨a,.cell a,h3,h4,rfl⟩
  | obj r =>
   have hb:some (⟨.obj r,wr,.plain⟩:Touch)=some b:=by cases wr<;>exact hb
   cases hb;exact ⟨_,.obj r,h3,h4,rfl⟩
 grind [MemAct.ofEvent,MemAct.touch?]
theorem Qcr {F Z:Nat->Prop} {e:Event} (h:EvOk F Z e):e.loc≠.mark .disable/\e.loc≠.mark .enable:=by
 rcases h with ⟨a,h1,_⟩ | h1
 ·generalize e.loc=l at h1;cases h1<;>exact ⟨(fun h=>by cases h),(fun h=>by cases h)⟩
 grind
theorem Qic {F Z:Nat->Prop} {e:Event} (h:EvOk F Z e) {B:Nat} (hB:∀ b,F b->b < B):(MemAct.ofEvent e).low B:=by
 obtain ⟨loc,wr,sy⟩:=e;rcases h with ⟨a,h1,h2,h3,h4⟩ | h1
 ·simp only at h1 h2;subst h2;cases h1 with
  | cell a =>
   grind [MemAct.ofEvent,MemAct.low,Loc.low]
  | obj r=>cases wr<;>exact hB _ h3
 grind [MemAct.ofEvent,MemAct.low]
end Go.Gw

end
section
set_option linter.unusedVariables false
namespace Go.Gw
open Go Go.Conc

def Jh (vs:Nat->Option View) (i:Nat) (x:Option View) (W':World):Nat->Option View:=fun j=>if j=i then x else (vs j).map (ZJ W')
theorem ZO {vs:Nat->Option View} {i:Nat} {x:Option View} {W':World}:Jh vs i x W' i=x:=by simp [Jh]
theorem Zj {vs:Nat->Option View} {i j:Nat} {x:Option View} {W':World} (h:j≠i):Jh vs i x W' j=(vs j).map (ZJ W'):=by simp [Jh,h]
theorem QEy {vs:Nat->Option View} {i j:Nat} {x:View} {W':World} {y:View} (hy:vs j=some y):(Jh vs i (some x) W' j).isSome=true:=by
 grind [Zj,ZO]
theorem Qqi {vs:Nat->Option View} {i j:Nat} {x:View} {W':World} (hy:(vs j).isSome=true):(Jh vs i (some x) W' j).isSome=true:=by
 cases hv:vs j with
 | none=>simp_all
 | some y=>exact QEy hv

theorem g?_cases {t u:Trace} {e g:Nat} (h:(t++u).g? e=some g):(e < t.size/\t.g? e=some g)\/(t.size<=e/\∃ op∈u,op.g=g/\(t++u)[e]?=some op):=by
 grind [Trace.g?,getElem?_append_cases,Ec]
theorem Qbb {t u:Trace} {e:Nat} {a:Touch} (h:touchAt (t++u) e=some a):(e < t.size/\touchAt t e=some a)\/(t.size<=e/\∃ op∈u,op.act.touch?=some a/\(t++u)[e]?=some op):=by
 obtain ⟨x,hx,hxa⟩:=touch_of h
 grind [touchAt_of,getElem?_append_cases]
theorem lt_of_g? {t:Trace} {j g:Nat} (h:t.g? j=some g):j < t.size:=by
 grind [lt_size_of_getElem?,Ec,Trace.g?]

section
variable {Sh:Loc->Prop} {c n:Nat} {vs:Nat->Option View} {W W':World} {t:Trace} {i:Nat} {x:View}
theorem PI.old_low (h:PI Sh c vs n W t) {e:Nat} {a:Touch} {ad:Addr} (ha:touchAt t e=some a) (hl:AtL a.loc ad):ad.block < W.heap.size:=by
 obtain ⟨op,ho,hop⟩:=touch_of ha;have:=h.low op (mem_of_getElem? ho);obtain ⟨g,fn,pos,act⟩:=op;cases act with
 | access ev =>
  simp only [MemAct.touch?] at hop;cases hop;simp only [MemAct.low] at this;simp only at hl;generalize ev.loc=l at this hl;cases hl<;>exact this
 | mark m =>
  cases m<;>simp only [MemAct.touch?] at hop<;>first | (cases hop;done) | (cases hop;simp only at hl;cases hl;exact this)
 | _=>trivial
theorem PI.chan_lt (h:PI Sh c vs n W t):c < W.heap.size:=by
 obtain ⟨s,hs⟩:=h.chan
 grind

theorem PI.step (h:PI Sh c vs n W t) (hi:vs i=some x) {F':Nat->Prop} {w':World} (ha:AgrTo x.F x.Z W F' w' W') (hn:NoView w') {es:Array Event} (he:∀ e∈es,EvOk F' x.Z e) (fn:FuncId) (pos:String) :
    PI Sh c (Jh vs i (some ⟨fun b=>F' b/\b < W'.heap.size,x.Z,w'⟩) W') n W' (t++MemOp.ofEvents i fn pos es):=by
  obtain ⟨hin,hx⟩:=h.seen i x hi;have hg:∀ op∈MemOp.ofEvents i fn pos es,op.g=i:=fun op hop=>by grind [Conc.mem_ofEvents]
  have hF:∀ b,F' b->b < W.heap.size->x.F b:=fun b hb hlt=>by
    rcases ha.new b hb with h1 | h1
    · exact h1
    · omega
  have hop:∀ op∈MemOp.ofEvents i fn pos es,∀ b,op.act.touch?=some b->∃ ad,AtL b.loc ad/\F' ad.block/\(b.write=true->¬ x.Z ad.block)/\b.kind=.plain:=fun op hop b hb=>by
    grind [Qid,Conc.mem_ofEvents]
  have hgrow:∀ j y,j≠i->vs j=some y->Agr y.F y.Z (ZJ W' y).w W'/\∀ b,y.F b->W'.heap[b]?=W.heap[b]?:=fun j y hj hy=>by
    obtain ⟨_,sy⟩:=h.seen j y hy;have hk:∀ b,y.F b->W'.heap[b]?=W.heap[b]?:=fun b hb=>ha.keep b (sy.bnd b hb) (by
      rcases Classical.em (x.F b) with hxb | hxb
      · exact .inr ((h.apart i j x y (Ne.symm hj) hi hy) b hxb hb).1
      simp_all)
    exact ⟨sy.agr.grown y rfl sy.bnd ha.size ha.same.1 ha.same.2.1 ha.same.2.2 hk,hk⟩
  refine ⟨fun j y hy=>?_,fun j k y z hjk hy hz=>?_,?_,fun said=>?_,fun e a hta hm=>?_,fun e g hge hne hc=>?_,fun j hj=>?_,fun op hop'=>?_,fun j y y0 hy hy0 b hb=>?_⟩
  · by_cases hj:j=i
    · subst hj;rw [ZO] at hy;cases hy;refine ⟨hin,ha.agr.cut,hn,fun b hb=>hb.2,fun hc=>?_,fun e a ad hta hl hFb hz=>?_,fun e a ad hta hl hz hw=>?_,?_⟩
      · exact hx.chan (hF c hc.1 h.chan_lt)
      · rcases Qbb hta with ⟨_,h1⟩ | ⟨_,op,h1,h2,h3⟩
        · exact (hx.own e a ad h1 hl (hF _ hFb.1 (h.old_low h1 hl)) hz).app _
        grind [knows_own]
      · rcases Qbb hta with ⟨_,h1⟩ | ⟨_,op,h1,h2,h3⟩
        · exact (hx.shr e a ad h1 hl hz hw).app _
        grind [knows_own]
      · rw [Deaf_own,deafBehind_still (fun e hee=>Qcr (he e hee))];exact hx.deaf
    · rw [Zj hj] at hy;obtain ⟨y0,hy0,rfl⟩:=Ec.1 hy;obtain ⟨hjn,sy⟩:=h.seen j y0 hy0;obtain ⟨hag,hk⟩:=hgrow j y0 hj hy0;have hap:=h.apart i j x y0 (Ne.symm hj) hi hy0;refine ⟨hjn,hag,sy.nov.rel Qbo,fun b hb=>Ee (sy.bnd b hb) ha.size,sy.chan,fun e a ad hta hl hFb hz=>?_,fun e a ad hta hl hz hw=>?_,?_⟩
      · rcases Qbb hta with ⟨_,h1⟩ | ⟨_,op,h1,h2,h3⟩
        · exact (sy.own e a ad h1 hl hFb hz).app _
        · obtain ⟨ad',h4,h5,h6,_⟩:=hop op h1 a h2;cases hl.inj h4;exact absurd (hap _ (hF _ h5 (sy.bnd _ hFb)) hFb).2 hz
      · rcases Qbb hta with ⟨_,h1⟩ | ⟨_,op,h1,h2,h3⟩
        · exact (sy.shr e a ad h1 hl hz hw).app _
        · obtain ⟨ad',h4,h5,h6,_⟩:=hop op h1 a h2;cases hl.inj h4;have hFb:y0.F ad.block:=sy.agr.zf _ hz;exact absurd (hap _ (hF _ h5 (sy.bnd _ hFb)) hFb).1 (h6 hw)
      · rw [Deaf_other t (Ne.symm hj) _ hg];exact sy.deaf
  · have key : ∀ j y, j ≠ i -> Jh vs i (some ⟨fun b => F' b /\ b < W'.heap.size, x.Z, w'⟩) W' j = some y -> Apart ⟨fun b => F' b /\ b < W'.heap.size, x.Z, w'⟩ y := fun j y hj hy => by
      rw [Zj hj] at hy;obtain ⟨y0,hy0,rfl⟩:=Ec.1 hy;intro b hb hyb;exact h.apart i j x y0 (Ne.symm hj) hi hy0 b (hF b hb.1 ((h.seen j y0 hy0).2.bnd b hyb)) hyb
    by_cases hj:j=i
    · subst hj;rw [ZO] at hy;grind
    · by_cases hk:k=i
      · subst hk;rw [ZO] at hz;cases hz;exact (key j y hjk hy).symm
      · rw [Zj hj] at hy;rw [Zj hk] at hz;obtain ⟨y0,hy0,rfl⟩:=Ec.1 hy;obtain ⟨z0,hz0,rfl⟩:=Ec.1 hz;exact h.apart j k y0 z0 hjk hy0 hz0
  · obtain ⟨s,hs⟩:=h.chan;exact ⟨s,by rw [ha.keep c h.chan_lt (.inl hx.chan)];exact hs⟩
  · refine noRace_append (h.clean said) hg fun e a hta op hop' b hb hcf=>?_;obtain ⟨ad,h4,h5,h6,_⟩:=hop op hop' b hb;have hl:AtL a.loc ad:=hcf.1▸h4;have hFb:=hF _ h5 (h.old_low hta hl);rcases Classical.em (x.Z ad.block) with hz | hz
    · refine hx.shr e a ad hta hl hz ?_;rcases hcf.2.2.1 with h7 | h7
      · exact h7
      simp_all
    · exact hx.own e a ad hta hl hFb hz
  · rcases Qbb hta with ⟨_,h1⟩ | ⟨_,op,h1,h2,h3⟩
    · rcases h.known e a h1 hm with h4 | h4 | ⟨j,h4,h5⟩
      · exact .inl (h4.app _)
      · simp_all
      · exact .inr (.inr ⟨j,Qqi h4,h5.app _⟩)
    · have:=knows_own h3
      grind [ZO]
  · rcases g?_cases hge with ⟨h0,h1⟩ | ⟨_,op,h1,h2,h3⟩
    · rcases h.over e g h1 hne ((counts_old h0).1 hc) with ⟨j,h4,h5⟩ | ⟨j,h4,h5⟩
      · exact .inl ⟨j,by grind [g?_old,lt_of_g?],hb_app _ h5⟩
      · exact .inr ⟨j,Qqi h4,h5.app _⟩
    · have:=knows_own h3
      grind [ZO]
  · rw [Deaf_other t (by omega) _ hg];exact h.above j hj
  · rcases Ep.1 hop' with h1 | h1
    · exact MemAct.low_mono ha.size (h.low op h1)
    · obtain ⟨e,hee,rfl⟩:=Conc.mem_ofEvents h1;refine Qic (F:=fun b=>F' b) (he e hee) fun b hb=>?_;rcases ha.new b hb with h2 | h2
      · exact Ee (hx.bnd b h2) ha.size
      omega
  · -- what is shared,goroutine 0 sees
    have hZ:∃ y',vs j=some y'/\y'.Z b:=by
      by_cases hj:j=i
      · grind [ZO]
      · rw [Zj hj] at hy;obtain ⟨y',h1,rfl⟩:=Ec.1 hy;exact ⟨y',h1,hb⟩
    obtain ⟨y',hy',hb'⟩:=hZ;by_cases h0:0=i
    · subst h0;rw [ZO] at hy0;cases hy0;have hxb:=h.mono j y' x hy' hi b hb';exact ⟨ha.more b hxb,Ee (hx.bnd b hxb) ha.size⟩
    · rw [Zj h0] at hy0;obtain ⟨y00,h1,rfl⟩:=Ec.1 hy0;exact h.mono j y' y00 hy' h1 b hb'
end
end Go.Gw

end
section
set_option linter.unusedVariables false
namespace Go.Gw
open Go Go.Conc
section
variable {Sh:Loc->Prop} {c n:Nat} {vs:Nat->Option View} {W W':World} {t:Trace} {i:Nat} {x:View}

theorem PI.mute (h:PI Sh c vs n W t) (hi:vs i=none) (hi0:i≠0) (hin:i < n) {es:Array Event} (hm:∀ e∈es,e.mute=true) (fn:FuncId) (pos:String):PI Sh c vs n W (t++MemOp.ofEvents i fn pos es):=by
 have hg:∀ op∈MemOp.ofEvents i fn pos es,op.g=i:=fun op hop=>by grind [Conc.mem_ofEvents]
 have hno:∀ op∈MemOp.ofEvents i fn pos es,op.act.touch?=none:=fun op hop=>by grind [touch_mute,Conc.mem_ofEvents]
 have hold:∀ e a,touchAt (t++MemOp.ofEvents i fn pos es) e=some a->touchAt t e=some a:=fun e a ha=>by
  rcases Qbb ha with ⟨_,h1⟩ | ⟨_,op,h1,h2,_⟩
  ·exact h1
  simp_all
 refine ⟨fun j y hy=>?_,h.apart,h.chan,fun said=>?_,fun e a ha hm=>?_,fun e g hge hne hc=>?_,fun j hj=>?_,fun op hop'=>?_,h.mono⟩
 ·obtain ⟨hjn,sy⟩:=h.seen j y hy;have hj:j≠i:=fun e=>by simp_all
  exact ⟨hjn,sy.agr,sy.nov,sy.bnd,sy.chan,fun e a ad ha hl hF hz=>(sy.own e a ad (hold e a ha) hl hF hz).app _,fun e a ad ha hl hz hw=>(sy.shr e a ad (hold e a ha) hl hz hw).app _,by rw [Deaf_other t (Ne.symm hj) _ hg];exact sy.deaf⟩
 ·exact noRace_append (h.clean said) hg fun e a _ op hop b hb _=>(by simp_all)
 ·rcases h.known e a (hold e a ha) hm with h4 | h4 | ⟨j,h4,h5⟩
  ·exact .inl (h4.app _)
  ·simp_all
  ·exact .inr (.inr ⟨j,h4,h5.app _⟩)
 ·rcases g?_cases hge with ⟨h0,h1⟩ | ⟨h0,op,h1,h2,h3⟩
  ·rcases h.over e g h1 hne ((counts_old h0).1 hc) with ⟨j,h4,h5⟩ | ⟨j,h4,h5⟩
   ·exact .inl ⟨j,by grind [g?_old,lt_of_g?],hb_app _ h5⟩
   ·exact .inr ⟨j,h4,h5.app _⟩
  ·obtain ⟨a,ha,_⟩:=hc;rw [show ((t++MemOp.ofEvents i fn pos es).act? e).bind (·.touch?)=touchAt (t++MemOp.ofEvents i fn pos es) e from rfl,touchAt_of h3,hno op h1] at ha;cases ha
 ·rw [Deaf_other t (by omega) _ hg];exact h.above j hj
 ·rcases Ep.1 hop' with h1 | h1
  ·exact h.low op h1
  grind [Conc.mem_ofEvents,low_mute]

def Ju (vs:Nat->Option View) (d:Nat):Nat->Option View:=fun j=>(vs j).map fun x=>{ x with w:=x.w.at d }
theorem Agr.at {F Z:Nat->Prop} {w W:World} (h:Agr F Z w W) (d:Nat):Agr F Z (w.at d) (W.at d):=⟨h.tape,rfl,h.os,h.output,h.size,h.own,h.shr,h.hid,h.zf⟩
theorem YC (w:World) (d:Nat):Rel w (w.at d):=⟨rfl,rfl,rfl,En _,fun _ _=>rfl,fun b h1 h2=>absurd h2 (Nat.not_lt.2 h1)⟩
theorem Seen.at (h:Seen c x W t i) (d:Nat):Seen c { x with w:=x.w.at d } (W.at d) t i:=⟨h.agr.at d,h.nov.rel (YC _ d),h.bnd,h.chan,h.own,h.shr,h.deaf⟩
theorem Qhw {d j:Nat}:(Ju vs d j).isSome=(vs j).isSome:=by simp [Ju]
theorem PI.at (h:PI Sh c vs n W t) (d:Nat):PI Sh c (Ju vs d) n (W.at d) t:=by
 refine ⟨fun j y hy=>?_,fun j k y z hjk hy hz=>?_,h.chan,h.clean,fun e a ha hm=>?_,fun e g hge hne hc=>?_,h.above,h.low,fun j y y0 hy hy0 b hb=>?_⟩
 ·obtain ⟨y0,hy0,rfl⟩:=Ec.1 hy;exact ⟨(h.seen j y0 hy0).1,(h.seen j y0 hy0).2.at d⟩
 ·obtain ⟨y0,hy0,rfl⟩:=Ec.1 hy;obtain ⟨z0,hz0,rfl⟩:=Ec.1 hz;exact h.apart j k y0 z0 hjk hy0 hz0
 ·rcases h.known e a ha hm with h4 | h4 | ⟨j,h4,h5⟩
  ·grind
  ·simp_all
  grind [Qhw]
 ·rcases h.over e g hge hne hc with h4 | ⟨j,h4,h5⟩
  ·grind
  grind [Qhw]
 ·obtain ⟨y',h1,rfl⟩:=Ec.1 hy;obtain ⟨y00,h2,rfl⟩:=Ec.1 hy0;exact h.mono j y' y00 h1 h2 b hb

/-! ### A new goroutine -/
open Classical in
noncomputable def frz (C:Nat->Prop) (w:World):World:={ w with heap:=w.heap.mapIdx fun b o=>if C b then (match o with | .cells cs e _=>.cells cs e (0,cs.size) | o=>o) else o }
open Classical in
noncomputable def hid (C:Nat->Prop) (w:World):World:={ w with heap:=w.heap.mapIdx fun b o=>if C b then o else Yw }
open Classical in
theorem Zt {C:Nat->Prop} {w:World} {b:Nat}:(frz C w).heap[b]?=(w.heap[b]?).map fun o=>if C b then (match o with | .cells cs e _=>.cells cs e (0,cs.size) | o=>o) else o:=by
 simp [frz,Ei]
open Classical in
theorem Qfi {C:Nat->Prop} {w:World} {b:Nat}:(hid C w).heap[b]?=(w.heap[b]?).map fun o=>if C b then o else Yw:=by
 simp [hid,Ei]
theorem Qfg {C:Nat->Prop} {w:World}:(frz C w).heap.size=w.heap.size:=by simp [frz]
theorem Qiw {C:Nat->Prop} {w:World}:(hid C w).heap.size=w.heap.size:=by simp [hid]
def Rows (C:Nat->Prop) (w:World):Prop:=∀ b,C b->∃ cs e fz,w.heap[b]?=some (.cells cs e fz)
theorem Agr.frz {F Z C:Nat->Prop} {w W:World} (h:Agr F Z w W) (hC:∀ b,C b->F b) (hR:Rows C w):Agr F (fun b=>Z b\/C b) (Gw.frz C w) W:=by
 refine ⟨h.tape,h.drawn,h.os,h.output,by rw [Qfg];exact h.size,fun b hF hz=>?_,fun b hF hz=>?_,fun b hF hlt=>?_,fun b hz=>hz.elim (h.zf b) (hC b)⟩
 ·have hCb:¬ C b:=fun e=>hz (.inr e)
  rw [Zt,h.own b hF (fun e=>hz (.inl e))];simp [hCb]
 ·by_cases hCb:C b
  ·obtain ⟨cs,e,fz,h1⟩:=hR b hCb;by_cases hZ:Z b
   ·obtain ⟨cs',e',fz',h2,h3⟩:=h.shr b hF hZ
    grind [Zt]
   ·exact ⟨cs,e,fz,by grind [Zt],by rw [h.own b hF hZ];exact h1⟩
  ·have hZ:Z b:=hz.resolve_right hCb;obtain ⟨cs',e',fz',h2,h3⟩:=h.shr b hF hZ
   grind [Zt]
 ·rw [Qfg] at hlt;have hCb:¬ C b:=fun e=>hF (hC b e)
  rw [Zt,h.hid b hF hlt];simp [hCb]
theorem Agr.hide {F Z C:Nat->Prop} {w W:World} (h:Agr F Z w W) (hC:∀ b,C b↔Z b):Agr C C (Gw.hid C w) W:=by
 refine ⟨h.tape,h.drawn,h.os,h.output,by rw [Qiw];exact h.size,fun b hF hz=>absurd hF hz,fun b hF _=>?_,fun b hF hlt=>?_,fun b hz=>hz⟩
 ·have hZ:=(hC b).1 hF;obtain ⟨cs',e',fz',h2,h3⟩:=h.shr b (h.zf b hZ) hZ
  grind [Qfi]
 grind [Qiw,Qfi,Ed]
theorem NoView.frz {C:Nat->Prop} {w:World} (h:NoView w):NoView (Gw.frz C w):=fun b a u e=>by
 rw [Zt] at e;cases hb:w.heap[b]? with
 | none=>simp_all
 | some o =>
  rw [hb] at e;simp only [Eg,Eh.injEq] at e;split at e
  ·cases o<;>simp at e
   rename_i x' u';exact h b x' u' hb
  ·subst e;exact h b a u hb
theorem NoView.hide {C:Nat->Prop} {w:World} (h:NoView w):NoView (Gw.hid C w):=fun b a u e=>by
 rw [Qfi] at e;cases hb:w.heap[b]? with
 | none=>simp_all
 | some o =>
  rw [hb] at e;simp only [Eg,Eh.injEq] at e;split at e
  ·subst e;exact h b a u hb
  ·cases e

/-! ### Operations that touch nothing -/
def Zp (y:MemOp):Prop:=y.act.touch?=none/\y.act≠.mark .disable/\y.act≠.mark .enable
theorem Z7 {y:MemOp} (hy:Zp y) (g:Nat):Deaf (t++#[y]) g=Deaf t g:=by
 rw [Deaf_push];obtain ⟨h,fn,pos,act⟩:=y;unfold deafStep;cases act with
 | mark m=>cases m<;>first | rfl | exact absurd rfl hy.2.1 | exact absurd rfl hy.2.2
 | _=>rfl
theorem JE {y:MemOp} (hy:Zp y) {e:Nat} {a:Touch} (ha:touchAt (t++#[y]) e=some a):touchAt t e=some a:=by
 rcases Qbb ha with ⟨_,h1⟩ | ⟨_,op,h1,h2,_⟩
 ·exact h1
 ·have:op=y:=by grind
  subst this;rw [hy.1] at h2;cases h2
theorem PI.calm (h:PI Sh c vs n W t) {y:MemOp} (hy:Zp y) (hl:y.act.low W.heap.size):PI Sh c vs n W (t++#[y]):=by
  refine ⟨fun j y' hy'=>?_,h.apart,h.chan,fun said=>?_,fun e a ha hm=>?_,fun e g hge hne hc=>?_,fun j hj=>?_,fun op hop'=>?_,h.mono⟩
  · obtain ⟨hjn,sy⟩:=h.seen j y' hy';exact ⟨hjn,sy.agr,sy.nov,sy.bnd,sy.chan,fun e a ad ha hl hF hz=>(sy.own e a ad (JE hy ha) hl hF hz).app _,fun e a ad ha hl hz hw=>(sy.shr e a ad (JE hy ha) hl hz hw).app _,by rw [Z7 hy];exact sy.deaf⟩
  · exact noRace_append (g := y.g) (h.clean said) (fun op hop => by simp_all) fun e a _ op hop b hb _ => (by
      have:op=y:=by grind
      rw [this,hy.1] at hb;cases hb)
  · rcases h.known e a (JE hy ha) hm with h4 | h4 | ⟨j,h4,h5⟩
    · exact .inl (h4.app _)
    · simp_all
    · exact .inr (.inr ⟨j,h4,h5.app _⟩)
  · rcases g?_cases hge with ⟨h0,h1⟩ | ⟨h0,op,h1,h2,h3⟩
    · rcases h.over e g h1 hne ((counts_old h0).1 hc) with ⟨j,h4,h5⟩ | ⟨j,h4,h5⟩
      · exact .inl ⟨j,by grind [g?_old,lt_of_g?],hb_app _ h5⟩
      · exact .inr ⟨j,h4,h5.app _⟩
    · obtain ⟨a,ha,_⟩:=hc;have:op=y:=by grind
      rw [show ((t++#[y]).act? e).bind (·.touch?)=touchAt (t++#[y]) e from rfl,touchAt_of h3,this,hy.1] at ha;cases ha
  · rw [Z7 hy];exact h.above j hj
  · rcases Ep.1 hop' with h1 | h1
    · exact h.low op h1
    simp_all
end
end Go.Gw

end
section
set_option linter.unusedVariables false
namespace Go.Gw
open Go Go.Conc
section
variable {Sh:Loc->Prop} {c n:Nat} {vs:Nat->Option View} {W W':World} {t:Trace} {i:Nat} {x:View}

theorem Qhg {t1:Trace} {y:MemOp} (u:Trace):(t1++#[y]++u)[t1.size]?=some y:=by
 grind
theorem Qlh {t1:Trace} {y:MemOp}:(t1++#[y])[t1.size]?=some y:=by
 simp
theorem Qfh {t1:Trace} {y:MemOp} (u:Trace) (hd:Deaf t1 y.g=0):(t1++#[y]++u).heard t1.size:=by
 refine ⟨y.g,by rw [Trace.g?,Qhg];rfl,?_⟩;rw [Ek,deaf_old (En _)];exact hd

theorem Qcm (k g:Nat) (fn:FuncId) (pos:String):Zp { g:=g,fn:=fn,pos:=pos,act:=.go k }:=⟨rfl,by simp,by simp⟩
theorem Qeq (g:Nat) (fn:FuncId) (pos:String):Zp { g:=g,fn:=fn,pos:=pos,act:=.start }:=⟨rfl,by simp,by simp⟩
theorem Qeo (k s g:Nat) (fn:FuncId) (pos:String):Zp { g:=g,fn:=fn,pos:=pos,act:=.send k s }:=⟨rfl,by simp,by simp⟩
theorem Qen (k s r g:Nat) (fn:FuncId) (pos:String):Zp { g:=g,fn:=fn,pos:=pos,act:=.recv k s r }:=⟨rfl,by simp,by simp⟩
theorem Qep (k s g:Nat) (fn:FuncId) (pos:String):Zp { g:=g,fn:=fn,pos:=pos,act:=.sendDone k s }:=⟨rfl,by simp,by simp⟩
theorem Qhs (k s g:Nat) (fn:FuncId) (pos:String):Zp { g:=g,fn:=fn,pos:=pos,act:=.recvDone k s }:=⟨rfl,by simp,by simp⟩

theorem QAx {fn fn':FuncId} {pos pos':String} (h0:Deaf t 0=0) (hn:Deaf t n=0) {e:Nat} (hk:Knows t 0 e):Knows (t++#[{ g:=0,fn:=fn,pos:=pos,act:=.go n }]++#[{ g:=n,fn:=fn',pos:=pos',act:=.start }]) n e:=by
 obtain ⟨q,z,h1,h2,h3⟩:=hk;have hq:=lt_size_of_getElem? h1;generalize hy1:({ g:=0,fn:=fn,pos:=pos,act:=.go n }:MemOp)=y1;generalize hy2:({ g:=n,fn:=fn',pos:=pos',act:=.start }:MemOp)=y2;have c1:Zp y1:=by grind [Qcm]
 have e1:(t++#[y1]++#[y2])[t.size]?=some y1:=Qhg _;have e2:(t++#[y1]++#[y2])[(t++#[y1]).size]?=some y2:=Qlh;have eq:(t++#[y1]++#[y2])[q]?=some z:=by grind
 have g1:HappensBefore (t++#[y1]++#[y2]) e t.size:=((h3.app #[y1]).app #[y2]).hb (hb_po hq eq e1 (by grind));refine ⟨_,y2,e2,by grind,.inr (g1.trans (.single (.inr ⟨?_,?_,?_⟩)))⟩
 ·refine .spawn (child:=n) ?_ ?_ ?_
  ·grind [Trace.act?]
  ·grind [Trace.act?]
  grind [Trace.g?]
 ·grind [Qfh]
 ·have:=Qfh (t1:=t++#[y1]) (y:=y2) #[] (by grind [Z7]);trivial

theorem QAw {h r s:Nat} {f1 f2 f3 f4:FuncId} {p1 p2 p3 p4:String} (h0:Deaf t 0=0) (hh:Deaf t h=0) {e:Nat} (hk:Knows t h e) :
  Knows (t++#[{ g:=h,fn:=f1,pos:=p1,act:=.send c s }]++#[{ g:=0,fn:=f2,pos:=p2,act:=.recv c s r }]++#[{ g:=h,fn:=f3,pos:=p3,act:=.sendDone c s }]++#[{ g:=0,fn:=f4,pos:=p4,act:=.recvDone c s }]) 0 e:=by
 obtain ⟨q,z,h1,h2,h3⟩:=hk;have hq:=lt_size_of_getElem? h1;generalize hy1:({ g:=h,fn:=f1,pos:=p1,act:=.send c s }:MemOp)=y1;generalize hy2:({ g:=0,fn:=f2,pos:=p2,act:=.recv c s r }:MemOp)=y2;generalize hy3:({ g:=h,fn:=f3,pos:=p3,act:=.sendDone c s }:MemOp)=y3;generalize hy4:({ g:=0,fn:=f4,pos:=p4,act:=.recvDone c s }:MemOp)=y4;have c1:Zp y1:=by subst hy1;exact Qeo ..
 have c2:Zp y2:=by subst hy2;exact Qen ..
 have c3:Zp y3:=by subst hy3;exact Qep ..
 have eT:t++#[y1]++#[y2]++#[y3]++#[y4]=t++#[y1]++(#[y2]++#[y3]++#[y4]):=by simp only [Ek]
 have e1:(t++#[y1]++#[y2]++#[y3]++#[y4])[t.size]?=some y1:=by rw [eT];exact Qhg _
 have e4:(t++#[y1]++#[y2]++#[y3]++#[y4])[(t++#[y1]++#[y2]++#[y3]).size]?=some y4:=Qlh;have eq:(t++#[y1]++#[y2]++#[y3]++#[y4])[q]?=some z:=by rw [eT,getElem?_append_old (by simp;omega),getElem?_append_old hq];exact h1
 have g1:HappensBefore (t++#[y1]++#[y2]++#[y3]++#[y4]) e t.size:=((((h3.app #[y1]).app #[y2]).app #[y3]).app #[y4]).hb (hb_po hq eq e1 (by subst hy1;exact h2));refine ⟨_,y4,e4,by subst hy4;rfl,.inr (g1.trans (.single (.inr ⟨?_,?_,?_⟩)))⟩
 ·refine .handOver (c:=c) (k:=s) ?_ ?_
  ·rw [Trace.act?,e1];subst hy1;rfl
  ·rw [Trace.act?,e4];subst hy4;rfl
 ·rw [eT];exact Qfh _ (by subst hy1;exact hh)
 ·have:=Qfh (t1:=t++#[y1]++#[y2]++#[y3]) (y:=y4) #[] (by rw [Z7 c3,Z7 c2,Z7 c1];subst hy4;exact h0);rwa [Es] at this

theorem PI.fork {C:Nat->Prop} (h:PI Sh c vs n W t) (h0:vs 0=some x) (hC:∀ b,C b->x.F b) (hR:Rows C x.w) (fn fn':FuncId) (pos pos':String) :
    PI Sh c (fun j=>if j=0 then some ⟨x.F,fun b=>x.Z b\/C b,frz C x.w⟩ else if j=n then some ⟨fun b=>x.Z b\/C b,fun b=>x.Z b\/C b,hid (fun b=>x.Z b\/C b) (frz C x.w)⟩ else vs j) (n+1) W
      (t++#[{ g:=0,fn:=fn,pos:=pos,act:=.go n }]++#[{ g:=n,fn:=fn',pos:=pos',act:=.start }]):=by
  have hb:=(h.calm (Qcm n 0 fn pos) trivial).calm (Qeq n fn' pos') trivial;have hn0:0 < n:=(h.seen 0 x h0).1;have hx:=(h.seen 0 x h0).2;have hx2:=(hb.seen 0 x h0).2;have hone:∀ j y,vs j=some y->j≠n:=fun j y hy e=>by have:=(h.seen j y hy).1;omega
  have hold:∀ e a,touchAt (t++#[{ g:=0,fn:=fn,pos:=pos,act:=.go n }]++#[{ g:=n,fn:=fn',pos:=pos',act:=.start }]) e=some a->touchAt t e=some a:=fun e a ha=>JE (Qcm n 0 fn pos) (JE (Qeq n fn' pos') ha)
  have hagr:=hx.agr.frz hC hR;have hF:∀ b,(x.Z b\/C b)->x.F b:=fun b hz=>hz.elim (hx.agr.zf b) (hC b)
  have hdn:=h.above n (En _);have hap0:∀ j y,j≠0->vs j=some y->∀ b,x.F b->y.F b->x.Z b/\y.Z b:=fun j y hj hy=>h.apart 0 j x y (Ne.symm hj) h0 hy
  refine ⟨fun j y hy=>?_,fun j k y z hjk hy hz=>?_,hb.chan,hb.clean,fun e a ha hm=>?_,fun e g hge hne hc=>?_,fun j hj=>hb.above j (by omega),hb.low,fun j y y0 hy hy0 b hz=>?_⟩
  · by_cases hj:j=0
    · subst hj;rw [if_pos rfl] at hy;cases hy;refine ⟨by omega,hagr,hx.nov.frz,hx.bnd,hx.chan,fun e a ad ha hl hFb hz=>hx2.own e a ad ha hl hFb (fun e=>hz (.inl e)),fun e a ad ha hl hz hw=>?_,hx2.deaf⟩;by_cases hZ:x.Z ad.block
      · exact hx2.shr e a ad ha hl hZ hw
      · exact hx2.own e a ad ha hl (hF _ hz) hZ
    · rw [if_neg hj] at hy;by_cases hjn:j=n
      · subst hjn;rw [if_pos rfl] at hy;cases hy;refine ⟨by omega,hagr.hide (fun b=>Iff.rfl),hx.nov.frz.hide,fun b hb=>hx.bnd b (hF b hb),fun hc=>hx.chan (hF c hc),fun e a ad ha hl hFb hz=>absurd hFb hz,fun e a ad ha hl hz hw=>?_,?_⟩
        · refine QAx hx.deaf hdn ?_;by_cases hZ:x.Z ad.block
          · exact hx.shr e a ad (hold e a ha) hl hZ hw
          · exact hx.own e a ad (hold e a ha) hl (hF _ hz) hZ
        grind [Z7,Qeq,Qcm]
      · rw [if_neg hjn] at hy;exact ⟨by have:=(hb.seen j y hy).1;omega,(hb.seen j y hy).2⟩
  · have main : ∀ k z, k ≠ 0 -> (if k = 0 then some (⟨x.F, fun b => x.Z b \/ C b, frz C x.w⟩ : View) else if k = n then some ⟨fun b => x.Z b \/ C b, fun b => x.Z b \/ C b, hid (fun b => x.Z b \/ C b) (frz C x.w)⟩ else vs k) = some z -> Apart ⟨x.F, fun b => x.Z b \/ C b, frz C x.w⟩ z := fun k z hk hz b h1 h2 => by
      grind
    have chld:∀ k z,k≠0->k≠n->vs k=some z->Apart ⟨fun b=>x.Z b\/C b,fun b=>x.Z b\/C b,hid (fun b=>x.Z b\/C b) (frz C x.w)⟩ z:=fun k z hk hkn hz b h1 h2=>⟨h1,(hap0 k z hk hz b (hF b h1) h2).2⟩
    by_cases hj:j=0
    · grind
    · by_cases hk:k=0
      · subst hk;rw [if_pos rfl] at hz;cases hz;exact (main j y hj hy).symm
      · rw [if_neg hj] at hy;rw [if_neg hk] at hz;by_cases hjn:j=n
        · grind
        · rw [if_neg hjn] at hy;by_cases hkn:k=n
          · subst hkn;rw [if_pos rfl] at hz;cases hz;exact (chld j y hj hjk hy).symm
          · rw [if_neg hkn] at hz;exact h.apart j k y z hjk hy hz
  · rcases hb.known e a ha hm with h4 | h4 | ⟨j,h4,h5⟩
    · grind
    · simp_all
    grind
  · rcases hb.over e g hge hne hc with h4 | ⟨j,h4,h5⟩
    · grind
    grind
  · rw [if_pos rfl] at hy0;cases hy0;by_cases hj:j=0
    · grind
    · rw [if_neg hj] at hy;by_cases hjn:j=n
      · grind
      · rw [if_neg hjn] at hy;exact h.mono j y x hy h0 b hz
end
end Go.Gw

end
section
set_option linter.unusedVariables false
namespace Go.Gw
open Go Go.Conc
section
variable {Sh:Loc->Prop} {c n:Nat} {vs:Nat->Option View} {W W':World} {t:Trace} {i:Nat} {x y:View}

structure More (w w':World):Prop where
 os:w'.os=w.os
 tape:w'.tape=w.tape
 output:w'.output=w.output
 size:w'.heap.size=w.heap.size
 block:∀ b,b < w.heap.size->w.heap[b]?≠some Yw->w'.heap[b]?=w.heap[b]?
def Shows (w w':World):Prop:=∀ (b:Nat) (cs:Array Value) (e:TypeId) (fz:Nat×Nat),w.heap[b]?=some (.cells cs e fz)->w'.heap[b]?=some (.cells cs e fz)
theorem More.shows {w w':World} (h:More w w'):Shows w w':=fun b cs e fz hb=>by
 rw [h.block b (Ea.1 hb).1 (by grind [Yw])];exact hb

theorem Qfz {s r:Nat} {tm:Bool} {b:Nat} (h:b≠c):(W.passed c s r tm).heap[b]?=W.heap[b]?:=by
 simp_all [Eb,Ne.symm,World.passed]
theorem passed_size {s r:Nat} {tm:Bool}:(W.passed c s r tm).heap.size=W.heap.size:=by simp [World.passed]
theorem Agr.passed {F Z:Nat->Prop} {w:World} (h:Agr F Z w W) (hc:¬ F c) (s r:Nat) (tm:Bool):Agr F Z w (W.passed c s r tm) :=
 ⟨h.tape,h.drawn,h.os,h.output,passed_size.trans h.size,fun b hb hz=>by rw [Qfz (fun (e:b=c)=>hc (e▸hb))];exact h.own b hb hz,fun b hb hz=>by
  obtain ⟨cs,e,fz,h1,h2⟩:=h.shr b hb hz
  grind [Qfz],h.hid,h.zf⟩

open Classical in
noncomputable def Zu (x y:View):World:={ x.w with heap:=x.w.heap.mapIdx fun b o=>if x.F b then o else if y.F b then (y.w.heap[b]?).getD Yw else Yw }
open Classical in
theorem Qai {b:Nat}:(Zu x y).heap[b]?=(x.w.heap[b]?).map fun o=>if x.F b then o else if y.F b then (y.w.heap[b]?).getD Yw else Yw:=by
 simp [Zu,Ei]
theorem Qjf:(Zu x y).heap.size=x.w.heap.size:=by simp [Zu]

theorem QBp (hx:Agr x.F x.Z x.w W):More x.w (Zu x y):=by
 refine ⟨rfl,rfl,rfl,Qjf,fun b hb hj=>?_⟩;rw [Qai];by_cases hF:x.F b
 ·simp [hF]
 ·exact absurd (hx.hid b hF hb) hj
theorem QBr (hx:Agr x.F x.Z x.w W) (hy:Agr y.F y.Z y.w W) (hap:Apart x y):Shows y.w (Zu x y):=fun b cs e fz hb=>by
 have hlt:=(Ea.1 hb).1;have hyF:y.F b:=by
  refine Classical.byContradiction fun hn=>?_;rw [hy.hid b hn hlt] at hb;cases hb
 have hlt':b < x.w.heap.size:=by rw [<-hx.size,hy.size];exact hlt
 rw [Qai,Ed hlt'];by_cases hF:x.F b
 ·obtain ⟨hxz,hyz⟩:=hap b hF hyF;obtain ⟨cs1,e1,fz1,h1,h2⟩:=hx.shr b hF hxz;obtain ⟨cs2,e2,fz2,h3,h4⟩:=hy.shr b hyF hyz;simp_all
 simp_all
theorem QBo (hx:Agr x.F x.Z x.w W) (hy:Agr y.F y.Z y.w W) (hap:Apart x y) (hz:∀ b,y.Z b->x.F b) (hb:∀ b,y.F b->b < W.heap.size):Agr (fun b=>x.F b\/y.F b) x.Z (Zu x y) W:=by
 refine ⟨hx.tape,hx.drawn,hx.os,hx.output,by rw [Qjf];exact hx.size,fun b hF hZ=>?_,fun b hF hZ=>?_,fun b hF hlt=>?_,fun b hZ=>.inl (hx.zf b hZ)⟩
 ·rw [Qai];by_cases hxF:x.F b
  ·rw [hx.own b hxF hZ];simp [hxF]
  ·have hyF:=hF.resolve_left hxF;have hlt:=hb b hyF;have hlt':b < x.w.heap.size:=by rw [<-hx.size];exact hlt
   have hyl:b < y.w.heap.size:=by rw [<-hy.size];exact hlt
   rw [hy.own b hyF (fun e=>hxF (hz b e)),Ed hlt'];simp_all
 ·have hxF:=hx.zf b hZ;obtain ⟨cs1,e1,fz1,h1,h2⟩:=hx.shr b hxF hZ
  grind [Qai]
 grind [Qjf,Qai,Ed]
theorem QBq (hx:Seen c x W t 0) (hy:Seen c y W t i):NoView (Zu x y):=fun b a u e=>by
 rw [Qai] at e;cases hb:x.w.heap[b]? with
 | none=>simp_all
 | some o =>
  rw [hb] at e;simp only [Eg,Eh.injEq] at e;split at e
  ·subst e;exact hx.nov b a u hb
  ·split at e
   ·cases hyb:y.w.heap[b]? with
    | none=>rw [hyb] at e;cases e
    | some o'=>rw [hyb] at e;simp at e;subst e;exact hy.nov b a u hyb
   ·cases e

theorem PI.meet (h:PI Sh c vs n W t) (h0:vs 0=some x) (hi:vs i=some y) (hi0:i≠0) {s:Nat} (hs:W.heap[c]?=some (.chan 0 #[] false s s false)) (f1 f2 f3 f4:FuncId) (p1 p2 p3 p4:String) :
    PI Sh c (fun j=>if j=0 then some ⟨fun b=>x.F b\/y.F b,x.Z,Zu x y⟩ else if j=i then none else vs j) n (W.passed c s s false)
      (t++#[{ g:=i,fn:=f1,pos:=p1,act:=.send c s }]++#[{ g:=0,fn:=f2,pos:=p2,act:=.recv c s 0 }]++#[{ g:=i,fn:=f3,pos:=p3,act:=.sendDone c s }]++#[{ g:=0,fn:=f4,pos:=p4,act:=.recvDone c s }]):=by
  have hcl:=h.chan_lt;have hb:=(((h.calm (Qeo c s i f1 p1) hcl).calm (Qen c s 0 0 f2 p2) hcl).calm (Qep c s i f3 p3) hcl).calm (Qhs c s 0 f4 p4) hcl;have hx:=(h.seen 0 x h0).2;have hy:=(h.seen i y hi).2;have hx2:=(hb.seen 0 x h0).2;have hap:=h.apart 0 i x y (Ne.symm hi0) h0 hi;have hzz:∀ b,y.Z b->x.F b:=h.mono i y x hi h0;have met:∀ e,Knows t i e->Knows (t++#[{ g:=i,fn:=f1,pos:=p1,act:=.send c s }]++#[{ g:=0,fn:=f2,pos:=p2,act:=.recv c s 0 }]++#[{ g:=i,fn:=f3,pos:=p3,act:=.sendDone c s }]++#[{ g:=0,fn:=f4,pos:=p4,act:=.recvDone c s }]) 0 e:=fun e he=>QAw hx.deaf hy.deaf he
  have hold:∀ e a,touchAt (t++#[{ g:=i,fn:=f1,pos:=p1,act:=.send c s }]++#[{ g:=0,fn:=f2,pos:=p2,act:=.recv c s 0 }]++#[{ g:=i,fn:=f3,pos:=p3,act:=.sendDone c s }]++#[{ g:=0,fn:=f4,pos:=p4,act:=.recvDone c s }]) e=some a->touchAt t e=some a :=
    fun e a ha=>JE (Qeo ..) (JE (Qen ..) (JE (Qep ..) (JE (Qhs ..) ha)))
  have happ:∀ g e,Knows t g e->Knows (t++#[{ g:=i,fn:=f1,pos:=p1,act:=.send c s }]++#[{ g:=0,fn:=f2,pos:=p2,act:=.recv c s 0 }]++#[{ g:=i,fn:=f3,pos:=p3,act:=.sendDone c s }]++#[{ g:=0,fn:=f4,pos:=p4,act:=.recvDone c s }]) g e:=fun g e hk=>(((hk.app _).app _).app _).app _
  have hg4:∀ e,e < t.size->(t++#[{ g:=i,fn:=f1,pos:=p1,act:=.send c s }]++#[{ g:=0,fn:=f2,pos:=p2,act:=.recv c s 0 }]++#[{ g:=i,fn:=f3,pos:=p3,act:=.sendDone c s }]++#[{ g:=0,fn:=f4,pos:=p4,act:=.recvDone c s }]:Trace).g? e=t.g? e:=fun e he=>by grind [g?_old,Ek]
  have hc4:∀ e,e < t.size->((t++#[{ g:=i,fn:=f1,pos:=p1,act:=.send c s }]++#[{ g:=0,fn:=f2,pos:=p2,act:=.recv c s 0 }]++#[{ g:=i,fn:=f3,pos:=p3,act:=.sendDone c s }]++#[{ g:=0,fn:=f4,pos:=p4,act:=.recvDone c s }]:Trace).counts e↔t.counts e):=fun e he=>by grind [counts_old,Ek]
  have hb4:∀ e j,HappensBefore t e j->HappensBefore (t++#[{ g:=i,fn:=f1,pos:=p1,act:=.send c s }]++#[{ g:=0,fn:=f2,pos:=p2,act:=.recv c s 0 }]++#[{ g:=i,fn:=f3,pos:=p3,act:=.sendDone c s }]++#[{ g:=0,fn:=f4,pos:=p4,act:=.recvDone c s }]) e j:=fun e j hk=>hb_app _ (hb_app _ (hb_app _ (hb_app _ hk)))
  generalize (t++#[{ g:=i,fn:=f1,pos:=p1,act:=.send c s }]++#[{ g:=0,fn:=f2,pos:=p2,act:=.recv c s 0 }]++#[{ g:=i,fn:=f3,pos:=p3,act:=.sendDone c s }]++#[{ g:=0,fn:=f4,pos:=p4,act:=.recvDone c s }]:Trace)=t4 at hb hx2 met hold happ hg4 hc4 hb4 ⊢;have hag:=QBo hx.agr hy.agr hap hzz hy.bnd;refine ⟨fun j z hz=>?_,fun j k z z' hjk hz hz'=>?_,⟨s+1,?_⟩,hb.clean,fun e a ha hm=>?_,fun e g hge hne hc=>?_,hb.above,fun op hop=>by rw [passed_size];exact hb.low op hop,fun j z z0 hz hz0 b hbz=>?_⟩
  · by_cases hj:j=0
    · subst hj;rw [if_pos rfl] at hz;cases hz;refine ⟨(h.seen 0 x h0).1,hag.passed (fun e=>e.elim hx.chan hy.chan) _ _ _,QBq hx hy,fun b hF=>by rw [passed_size];exact hF.elim (hx.bnd b) (hy.bnd b),fun e=>e.elim hx.chan hy.chan,fun e a ad ha hl hF hz=>?_,hx2.shr,hx2.deaf⟩;by_cases hxF:x.F ad.block
      · exact hx2.own e a ad ha hl hxF hz
      · exact met e (hy.own e a ad (hold e a ha) hl (hF.resolve_left hxF) (fun e=>hxF (hzz _ e)))
    · rw [if_neg hj] at hz;by_cases hji:j=i
      · simp_all
      · rw [if_neg hji] at hz;obtain ⟨hjn,sz⟩:=hb.seen j z hz;exact ⟨hjn,sz.agr.passed sz.chan _ _ _,sz.nov,fun b hF=>by rw [passed_size];exact sz.bnd b hF,sz.chan,sz.own,sz.shr,sz.deaf⟩
  · have main : ∀ k z, k ≠ 0 -> (if k = 0 then some (⟨fun b => x.F b \/ y.F b, x.Z, Zu x y⟩ : View) else if k = i then none else vs k) = some z -> Apart ⟨fun b => x.F b \/ y.F b, x.Z, Zu x y⟩ z := fun k z hk hz b h1 h2 => by
      rw [if_neg hk] at hz;by_cases hki:k=i
      · simp_all
      · rw [if_neg hki] at hz;by_cases hxF:x.F b
        · exact h.apart 0 k x z (Ne.symm hk) h0 hz b hxF h2
        · have:=h.apart i k y z (Ne.symm hki) hi hz b (h1.resolve_left hxF) h2;simp_all
    by_cases hj:j=0
    · grind
    · by_cases hk:k=0
      · subst hk;rw [if_pos rfl] at hz';cases hz';exact (main j z hj hz).symm
      · rw [if_neg hj] at hz;rw [if_neg hk] at hz';by_cases hji:j=i
        · simp_all
        · rw [if_neg hji] at hz;by_cases hki:k=i
          · simp_all
          · rw [if_neg hki] at hz';exact h.apart j k z z' hjk hz hz'
  · simp [World.passed,hcl]
  · rcases h.known e a (hold e a ha) hm with h4 | h4 | ⟨j,h4,h5⟩
    · simp_all
    · simp_all
    grind
  · obtain ⟨a,ha,_⟩:=id hc;obtain ⟨op,ho,_⟩:=touch_of (hold e a ha);have hlt:=lt_size_of_getElem? ho;have out:∀ e,Knows t4 0 e->t4.g? e=some g->∃ j,t4.g? j=some 0/\HappensBefore t4 e j:=fun e ⟨q,z,h1,h2,h3⟩ hge=>by
      rcases h3 with rfl | h3
      · grind [absurd,Trace.g?]
      grind [Trace.g?]
    rcases h.over e g (by simp_all) hne ((hc4 e hlt).1 hc) with ⟨j,h4,h5⟩ | ⟨j,h4,h5⟩
    · grind [lt_of_g?]
    grind
  · rw [if_pos rfl] at hz0;cases hz0;by_cases hj:j=0
    · subst hj;rw [if_pos rfl] at hz;cases hz;exact .inl (hx.agr.zf b hbz)
    · rw [if_neg hj] at hz;by_cases hji:j=i
      · simp_all
      · rw [if_neg hji] at hz;exact .inl (h.mono j z x hz h0 b hbz)
end
end Go.Gw

end
section
set_option linter.unusedVariables false
namespace Go.Gw
open Go Go.Conc

def JJ (P:Program) (c:Nat) (φ:Value->World->Prop) (k:Nat) (g:Goroutine) (w:World):Prop :=
 g.status=.running/\∃ g2 v z,(∀ W,stepG P false g W=.comm g2 #[scase c v z] true .send W #[])/\QuitsD P k 0 (Conc.served g2 undef)/\∀ w1,Rel w w1->φ v w1
def WT (P:Program) (Z:Nat->Prop) (St:Nat->Goroutine->World->Prop):Tr->Goroutine->World->Prop
 | .leaf,_,_=>False
 | .mk f,g,w=>g.status=.running/\∀ w1,Rel w w1->(∃ k,St k g w1/\f w1=nt k)\/∃ g' w',ZS P false Z g w1 g' w'/\WT P Z St (f w1) g' w'
theorem WT.rely {P:Program} {Z:Nat->Prop} {St:Nat->Goroutine->World->Prop} {τ:Tr} {g:Goroutine} {w w1:World} (h:WT P Z St τ g w) (r:Rel w w1):WT P Z St τ g w1:=by
 cases τ with
 | leaf=>exact h
 | mk f=>exact ⟨h.1,fun w2 r2=>h.2 w2 (r.trans r2)⟩
theorem WT.running {P:Program} {Z:Nat->Prop} {St:Nat->Goroutine->World->Prop} {τ:Tr} {g:Goroutine} {w:World} (h:WT P Z St τ g w):g.status=.running:=by
 cases τ with
 | leaf=>exact h.elim
 | mk f=>exact h.1
def Jw (P:Program) (Z:Nat->Prop):Jd P:=⟨false,Z,fun _ _ _=>False⟩
theorem WT.of {P:Program} {Z:Nat->Prop} {St:Nat->Goroutine->World->Prop} (hSt:∀ k g w,St k g w->g.status=.running) {g:Goroutine} {w:World} (h:Wlk (Jw P Z) (fun g w=>∃ k,St k g w) g w):∃ τ,WT P Z St τ g w:=by
 induction h with
 | @stop g w h =>
  have key:∀ w1:World,∃ k,Rel w w1->St k g w1:=fun w1=>by
   rcases Classical.em (Rel w w1) with hr | hr
   ·simp_all
   simp_all
  refine ⟨.mk fun w1=>nt (Classical.choose (key w1)),?_,fun w1 r=>.inl ⟨_,Classical.choose_spec (key w1) r,rfl⟩⟩;obtain ⟨k,hk⟩:=h w (Ef w)
  grind
 | @step g w nx hs h1 h2 ih =>
  have key:∀ w1:World,∃ τ,Rel w w1->WT P Z St τ (nx w1).1 (nx w1).2:=fun w1=>by
   rcases Classical.em (Rel w w1) with hr | hr
   ·simp_all
   ·exact ⟨.leaf,fun hh=>absurd hh hr⟩
  exact ⟨.mk fun w1=>Classical.choose (key w1),hs,fun w1 r=>.inr ⟨_,_,h1 w1 r,Classical.choose_spec (key w1) r⟩⟩
 | phase S hs h1 h2 ih=>exact (h1 _ (Ef _)).elim

def Places (c:Nat) (gs:Array Goroutine):Prop:=∀ (i:Nat) (g:Goroutine),gs[i]?=some g->g.status=.running\/g.status=.finished\/(∃ g2 v z,g=parked g2 #[scase c v z] .send)\/∃ g2 z,g=parked g2 #[rcase c z] (.recv false)
theorem Places.form {c:Nat} {gs:Array Goroutine} (h:Places c gs):JH c gs:=fun i g hg=>by
 rcases h i g hg with h1 | h1 | h1
 ·simp_all
 ·simp_all
 simp_all
theorem Places.fin {c:Nat} {gs:Array Goroutine} (h:Places c gs) (i:Nat):Places c (gs.setIfInBounds i fin0):=fun j g hg=>by
 by_cases hj:i=j
 ·grind
 ·rw [Eb hj] at hg;exact h j g hg
theorem Places.awake {c:Nat} {gs:Array Goroutine} (h:Places c gs):∀ g∈gs,Conc.awake g:=fun g hg=>by
 obtain ⟨i,hi,rfl⟩:=Eq_.1 hg;rcases h i _ (Ed hi) with h1 | h1 | ⟨g2,v,z,h1⟩ | ⟨g2,z,h1⟩<;>intro t<;>rw [h1]<;>simp [parked]
theorem Places.woken {c:Nat} {gs:Array Goroutine} (h:Places c gs) {P:Program} {g g':Goroutine} {w':World} {s:Nat} (hc:w'.heap[c]?=some (.chan 0 #[] false s s false)):gs.map (woken P g g' w')=gs:=by
 apply Ej;intro i;rw [Et];cases hi:gs[i]? with
 | none=>rfl
 | some o =>
  simp only [Eg,Eh.injEq];unfold Conc.woken;split
  ·unfold Goroutine.again;rcases h i o hi with h1 | h1 | ⟨g2,v,z,rfl⟩ | ⟨g2,z,rfl⟩
   ·rw [h1]
   ·rw [h1]
   ·simp [parked,scase,hc]
   ·simp [parked,rcase,hc]
  ·rfl
end Go.Gw

end
section
set_option linter.unusedVariables false
namespace Go.Gw
open Go Go.Conc

def Role (P:Program) (c:Nat) (mp:Bool) (v:Option View) (φ:Value->World->Prop) (d:Nat) (r:Tr) (g:Goroutine):Prop :=
 match v with
 | none=>∃ k,r=nt k/\QuitsD P k d g
 | some x=>WT P x.Z (JJ P c φ) r g x.w\/(mp=false/\∃ k g2 v z,g=parked g2 #[scase c v z] .send/\QuitsD P k 0 (Conc.served g2 undef)/\∀ w1,Rel x.w w1->φ v w1)

structure Cfg (P : Program) (Sh : Loc -> Prop) (c : Nat) (Fs : Nat -> Prop) (Ws : World) (mp : Bool) (Z : Nat -> Prop) (orig : Nat -> Option Obj) (O : List (Value -> World -> Prop)) (g : Goroutine) (w : World)
  (vs:Nat->Option View) (ph:Nat->Value->World->Prop) (A:List Nat) (τ:List Tr) (gs:Array Goroutine) (W:World) (t:Trace):Prop where
 pi:PI Sh c vs gs.size W t
 main:∃ F,vs 0=some ⟨F,Z,w⟩/\∀ b,Fs b->F b
 g0:gs[0]?=some g
 pl0:if mp then ∃ g2 z,g=parked g2 #[rcase c z] (.recv false) else g.status=.running
 len:τ.length=gs.size
 nod:A.Nodup
 act:∀ i,i∈A↔i≠0/\(vs i).isSome=true
 posts:O=A.map ph
 oth:∀ i gi,i≠0->gs[i]?=some gi->∃ r,τ[i]?=some r/\Role P c mp (vs i) (ph i) (Deaf t i) r gi
 orig:∀ b,Z b->W.heap[b]?=orig b
 bas:∀ i x,vs i=some x->∀ b,x.F b->Fs b\/Ws.heap.size<=b
 size:Ws.heap.size<=W.heap.size
 keep:∀ b,b < Ws.heap.size->¬ Fs b->W.heap[b]?=Ws.heap[b]?
 same:W.tape=Ws.tape/\W.os=Ws.os/\W.output=Ws.output

section
variable {P:Program} {Sh:Loc->Prop} {c:Nat} {Fs:Nat->Prop} {Ws:World} {mp:Bool} {Z:Nat->Prop} {orig:Nat->Option Obj} {O:List (Value->World->Prop)} {g:Goroutine} {w:World}
variable {vs:Nat->Option View} {ph:Nat->Value->World->Prop} {A:List Nat} {τ:List Tr} {gs:Array Goroutine} {W:World} {t:Trace}

theorem Role.grown {v:Option View} {φ:Value->World->Prop} {d:Nat} {r:Tr} {g:Goroutine} (h:Role P c mp v φ d r g) (f:View->View) (hf:∀ x,(f x).Z=x.Z/\Rel x.w (f x).w):Role P c mp (v.map f) φ d r g:=by
 cases v with
 | none=>exact h
 | some x =>
  obtain ⟨h1,h2⟩:=hf x;rcases h with h | ⟨hm,k,g2,u,z,h3,h4,h5⟩
  ·left;rw [h1];exact h.rely h2
  ·exact .inr ⟨hm,k,g2,u,z,h3,h4,fun w1 r=>h5 w1 (h2.trans r)⟩
theorem Role.place {v:Option View} {φ:Value->World->Prop} {d:Nat} {r:Tr} {g:Goroutine} (h:Role P c mp v φ d r g):g.status=.running\/g.status=.finished\/(∃ g2 v z,g=parked g2 #[scase c v z] .send):=by
 cases v with
 | none =>
  obtain ⟨k,_,hq⟩:=h;rcases hq.status with h1 | h1
  ·grind
  simp_all
 | some x =>
  rcases h with h | ⟨hm,k,g2,u,z,h3,h4,h5⟩
  ·exact .inl h.running
  grind
theorem Cfg.places (h:Cfg P Sh c Fs Ws mp Z orig O g w vs ph A τ gs W t):Places c gs:=fun i gi hi=>by
 by_cases hi0:i=0
 ·subst hi0;rw [h.g0] at hi;cases hi;have:=h.pl0
  grind
 ·obtain ⟨r,_,hr⟩:=h.oth i gi hi0 hi;rcases hr.place with h1 | h1 | h1
  ·grind
  ·simp_all
  simp_all

theorem Cfg.at (h:Cfg P Sh c Fs Ws mp Z orig O g w vs ph A τ gs W t) (d:Nat):Cfg P Sh c Fs Ws mp Z orig O g (w.at d) (Ju vs d) ph A τ gs (W.at d) t:=by
 obtain ⟨F,h0,hF⟩:=h.main;refine ⟨h.pi.at d,⟨F,by simp [Ju,h0],hF⟩,h.g0,h.pl0,h.len,h.nod,fun i=>by rw [Qhw];exact h.act i,h.posts,fun i gi hi hg=>?_,h.orig,fun i x hx b hb=>?_,h.size,h.keep,h.same⟩
 ·obtain ⟨r,h1,h2⟩:=h.oth i gi hi hg;exact ⟨r,h1,h2.grown _ fun x=>⟨rfl,YC _ d⟩⟩
 ·obtain ⟨y,hy,rfl⟩:=Ec.1 hx;exact h.bas i y hy b hb

theorem Cfg.pick (h:Cfg P Sh c Fs Ws mp Z orig O g w vs ph A τ gs W t) (hr:∃ (i:Nat) (gi:Goroutine),gs[i]?=some gi/\gi.status=.running) (sl:Option (Nat×Nat)) :
  ∃ (i:Nat) (gi:Goroutine) (d:Nat) (sl':Option (Nat×Nat)),gs[i]?=some gi/\gi.status=.running/\stepT P (crowd gs W sl)=runT P (crowd gs (W.at d) sl') i/\Cfg P Sh c Fs Ws mp Z orig O g (w.at d) (Ju vs d) ph A τ gs (W.at d) t:=by
 obtain ⟨i,gi,d,sl',h1,h2,h3⟩:=crowd_pick (P:=P) (w:=W) (sl:=sl) h.places.awake hr;exact ⟨i,gi,d,sl',h1,h2,h3,h.at d⟩

theorem Qcy (i:Nat) (fn:FuncId) (pos:String):MemOp.ofEvents i fn pos #[]=#[]:=rfl

theorem Cfg.other (h:Cfg P Sh c Fs Ws mp Z orig O g w vs ph A τ gs W t) {i:Nat} {gi:Goroutine} (hi:gs[i]?=some gi) (hi0:i≠0) (hr:gi.status=.running) (sl:Option (Nat×Nat)) :
    (∃ (ops:Trace) (gs':Array Goroutine) (W':World) (vs':Nat->Option View) (τ':List Tr) (w':World),runT P (crowd gs W sl) i=(.next (crowd gs' W' sl),ops)/\Qdw τ' τ/\Rel w w'/\Cfg P Sh c Fs Ws mp Z orig O g w' vs' ph A τ' gs' W' (t++ops)) \/
    (mp=true/\∃ x k,vs i=some x/\JJ P c (ph i) k gi x.w):=by
  obtain ⟨r,hτ,hrole⟩:=h.oth i gi hi0 hi;obtain ⟨hlt,_⟩:=Ea.1 hi;have hb0:(i == 0)=false:=by simp [hi0]
  obtain ⟨s,hs⟩:=h.pi.chan;obtain ⟨F,h0,hF⟩:=h.main;have hset:∀ (g':Goroutine) (j:Nat),j≠i->(gs.setIfInBounds i g')[j]?=gs[j]?:=fun g' j hj=>Eb (Ne.symm hj)
  have hself:∀ g':Goroutine,(gs.setIfInBounds i g')[i]?=some g':=fun g'=>by simp [hlt]
  have hτne:∀ (y:Tr) (j:Nat),j≠i->(τ.set i y)[j]?=τ[j]?:=fun y j hj=>List.getElem?_set_ne (Ne.symm hj)
  have hτs:∀ y:Tr,(τ.set i y)[i]?=some y:=fun y=>by
    grind
  cases hv:vs i with
  | none =>
    -- a leaver slips
    rw [hv] at hrole;obtain ⟨k,rfl,hq⟩:=hrole;cases k with
    | zero=>rw [hq.1] at hr;cases hr
    | succ k =>
      rcases hq with ⟨hf,_⟩ | ⟨_,g',es,hm,hstp,hq'⟩
      · simp_all
      left;have hrun:=runT_crowd_go (P:=P) (sl:=sl) (i:=i) hi (by rw [hb0];exact hstp W);rw [h.places.woken hs] at hrun;have hg:∀ op∈MemOp.ofEvents i gi.frame.fn gi.frame.place es,op.g=i:=fun op hop=>by grind [Conc.mem_ofEvents]
      refine ⟨_,_,_,vs,τ.set i (nt k),w,hrun,⟨i,_,_,hτ,QEi k,rfl⟩,Ef w,?_⟩;refine ⟨?_,h.main,by rw [hset g' 0 (Ne.symm hi0)];exact h.g0,h.pl0,by simp [h.len],h.nod,h.act,h.posts,fun j gj hj hgj=>?_,h.orig,h.bas,h.size,h.keep,h.same⟩
      · rw [El];exact h.pi.mute hv hi0 hlt hm _ _
      · by_cases hji:j=i
        · subst hji;rw [hself] at hgj;cases hgj;refine ⟨nt k,hτs _,?_⟩;rw [hv,Deaf_own];exact ⟨k,rfl,hq'⟩
        · rw [hset g' j hji] at hgj;rw [hτne _ j hji,Deaf_other t (Ne.symm hji) _ hg];exact h.oth j gj hj hgj
  | some x =>
    rw [hv] at hrole;rcases hrole with hw | ⟨_,k,g2,u,z,h3,_⟩
    · cases r with
      | leaf=>exact hw.elim
      | mk f =>
        rcases hw.2 x.w (Ef _) with ⟨k,hk,hfk⟩ | ⟨g',w',hvs,hw'⟩
        · -- at its send
          cases mp with
          | true=>grind
          | false =>
            left;obtain ⟨_,g2,v,z,hst,hq,hφ⟩:=hk;have hF2:JH c (gs.setIfInBounds i fin0):=(h.places.fin i).form;have hnone:partners (gs.setIfInBounds i fin0) c false=[]:=by
              apply List.eq_nil_iff_forall_not_mem.2;rintro ⟨j,kk⟩ hm;obtain ⟨_,g3,z3,hg3⟩:=(Qjr hF2).1 hm;by_cases hji:j=i
              · simp_all [parked,congrArg,Ev,Goroutine.status]
              · rw [hset _ j hji] at hg3;by_cases hj0:j=0
                · subst hj0;rw [h.g0] at hg3;cases hg3;have:=h.pl0;trivial
                · obtain ⟨r3,_,hr3⟩:=h.oth j _ hj0 hg3;rcases hr3.place with h1 | h1 | ⟨g4,v4,z4,h1⟩
                  · trivial
                  · trivial
                  grind [parked,rcase,scase]
            have hrun:=Qjx (P:=P) (sl:=sl) (i:=i) hi (by rw [hb0];exact hst W);rw [Qve hs hnone rfl,Qcy] at hrun;have hgs:(gs.setIfInBounds i fin0).setIfInBounds i (parked g2 #[scase c v z] .send)=gs.setIfInBounds i (parked g2 #[scase c v z] .send):=by
              simp
            rw [hgs] at hrun;refine ⟨_,_,_,vs,τ.set i (nt k),w,hrun,⟨i,_,_,hτ,⟨f,x.w,rfl,hfk.symm⟩,rfl⟩,Ef w,?_⟩;refine ⟨?_,h.main,by rw [hset _ 0 (Ne.symm hi0)];exact h.g0,h.pl0,by simp [h.len],h.nod,h.act,h.posts,fun j gj hj hgj=>?_,h.orig,h.bas,h.size,h.keep,h.same⟩
            · rw [El];simpa using h.pi
            · by_cases hji:j=i
              · subst hji;rw [hself] at hgj;cases hgj;refine ⟨nt k,hτs _,?_⟩;rw [hv];exact .inr ⟨rfl,k,g2,v,z,rfl,hq,hφ⟩
              · rw [hset _ j hji] at hgj;rw [hτne _ j hji];simpa using h.oth j gj hj hgj
        · -- a step of its own
          left;obtain ⟨hin,hsx⟩:=h.pi.seen i x hv;obtain ⟨hnv,hstep⟩:=hvs hsx.nov;obtain ⟨F',W',es,hgo,hat,hes⟩:=hstep x.F W hsx.agr;have hap:=h.pi.apart 0 i _ x (Ne.symm hi0) h0 hv;have hs0:=(h.pi.seen 0 _ h0).2;have hcl:=h.pi.chan_lt;have hs':W'.heap[c]?=some (.chan 0 #[] false s s false):=by rw [hat.keep c hcl (.inl hsx.chan)];exact hs
          have hrun:=runT_crowd_go (P:=P) (sl:=sl) (i:=i) hi (by rw [hb0];exact hgo);rw [h.places.woken hs'] at hrun;have hpi:=h.pi.step hv hat hnv hes gi.frame.fn gi.frame.place;have hg:∀ op∈MemOp.ofEvents i gi.frame.fn gi.frame.place es,op.g=i:=fun op hop=>by grind [Conc.mem_ofEvents]
          refine ⟨_,_,_,Jh vs i (some ⟨fun b=>F' b/\b < W'.heap.size,x.Z,w'⟩) W',τ.set i (f x.w),(ZJ W' ⟨F,Z,w⟩).w,hrun,⟨i,_,_,hτ,⟨f,x.w,rfl,rfl⟩,rfl⟩,Qbo (x:=⟨F,Z,w⟩),?_⟩;refine ⟨by simp_all,⟨F,by rw [Zj (Ne.symm hi0),h0];rfl,hF⟩,by rw [hset _ 0 (Ne.symm hi0)];exact h.g0,h.pl0,by simp [h.len],h.nod,fun j=>?_,h.posts,fun j gj hj hgj=>?_,fun b hb=>?_,fun j y hy b hb=>?_,Em h.size hat.size,fun b hb hn=>?_,
            ⟨hat.same.1.trans h.same.1,hat.same.2.1.trans h.same.2.1,hat.same.2.2.trans h.same.2.2⟩⟩
          · rw [h.act j]
            grind [Zj,ZO]
          · by_cases hji:j=i
            · subst hji;rw [hself] at hgj;cases hgj;refine ⟨f x.w,hτs _,?_⟩;rw [ZO];exact .inl hw'
            · rw [hset _ j hji] at hgj;rw [hτne _ j hji,Deaf_other t (Ne.symm hji) _ hg,Zj hji];obtain ⟨r2,h1,h2⟩:=h.oth j gj hj hgj;exact ⟨r2,h1,h2.grown _ fun y=>⟨rfl,Qbo⟩⟩
          · have hFb:F b:=hs0.agr.zf b hb;rw [hat.keep b (hs0.bnd b hFb) (by
              rcases Classical.em (x.F b) with hxb | hxb
              · exact .inr (hap b hFb hxb).2
              simp_all)]
            exact h.orig b hb
          · by_cases hji:j=i
            · subst hji;rw [ZO] at hy;cases hy;rcases hat.new b hb.1 with h1 | h1
              · exact h.bas j x hv b h1
              · exact .inr (Em h.size h1.1)
            · rw [Zj hji] at hy;obtain ⟨y0,hy0,rfl⟩:=Ec.1 hy;exact h.bas j y0 hy0 b hb
          · rw [hat.keep b (Ee hb h.size) (.inl fun hxb => by
              rcases h.bas i x hv b hxb with h1 | h1
              · exact hn h1
              · omega)]
            exact h.keep b hb hn
    grind [parked]
end
end Go.Gw

end
section
set_option linter.unusedVariables false
namespace Go.Gw
open Go Go.Conc

structure MI (P:Program) (Sh:Loc->Prop) (F:Nat->Prop) (w:World) (gs:Array Goroutine) (W:World) (t:Trace) (q:Nat->Nat):Prop where
 agr:Agr F (fun _=>False) w W
 nov:NoView w
 bnd:∀ b,F b->b < W.heap.size
 shun:∀ (l:Loc) (ad:Addr),AtL l ad->F ad.block->¬ Sh l
 shlt:∀ (l:Loc) (ad:Addr),AtL l ad->Sh l->ad.block < W.heap.size
 past:Past Sh W.heap.size t
 lv:Leavers P t gs q
structure Went (F:Nat->Prop) (W:World) (F':Nat->Prop) (W':World):Prop where
 more:∀ b,F b->F' b
 new:∀ b,F' b->F b\/W.heap.size<=b
 keep:∀ b,b < W.heap.size->¬ F b->W'.heap[b]?=W.heap[b]?
 size:W.heap.size<=W'.heap.size
 same:W'.tape=W.tape/\W'.os=W.os/\W'.output=W.output

def Reach (P:Program) (Q:Array Goroutine->World->Trace->Prop) (gs:Array Goroutine) (W:World) (sl:Option (Nat×Nat)) (t:Trace):Prop :=
 ∃ N gs' W' sl' t',runNT P N (crowd gs W sl) t=(.next (crowd gs' W' sl'),t')/\Q gs' W' t'
theorem Reach.here {P:Program} {Q:Array Goroutine->World->Trace->Prop} {gs:Array Goroutine} {W:World} {sl:Option (Nat×Nat)} {t:Trace} (h:Q gs W t):Reach P Q gs W sl t:=⟨0,gs,W,sl,t,rfl,h⟩
theorem Reach.step {P:Program} {Q:Array Goroutine->World->Trace->Prop} {gs gs1:Array Goroutine} {W W1:World} {sl sl1:Option (Nat×Nat)} {t ops:Trace} (h:stepT P (crowd gs W sl)=(.next (crowd gs1 W1 sl1),ops)) (k:Reach P Q gs1 W1 sl1 (t++ops)):Reach P Q gs W sl t:=by
 obtain ⟨N,gs',W',sl',t',h1,h2⟩:=k;exact ⟨N+1,gs',W',sl',t',by grind [runNT],h2⟩

open Classical in
noncomputable def thaw (Z:Nat->Prop) (orig:Nat->Option Obj) (w:World):World:={ w with heap:=w.heap.mapIdx fun b o=>if Z b then (orig b).getD Yw else o }
open Classical in
theorem Qby {Z:Nat->Prop} {orig:Nat->Option Obj} {w:World} {b:Nat}:(thaw Z orig w).heap[b]?=(w.heap[b]?).map fun o=>if Z b then (orig b).getD Yw else o:=by
 simp [thaw,Ei]
theorem Qkr {Z:Nat->Prop} {orig:Nat->Option Obj} {w:World}:(thaw Z orig w).heap.size=w.heap.size:=by simp [thaw]
open Classical in
noncomputable def Jf (Z C:Nat->Prop) (w:World) (orig:Nat->Option Obj):Nat->Option Obj:=fun b=>if Z b then orig b else w.heap[b]?

inductive PW (P:Program) (c:Nat) (S:Goroutine->World->Prop):(Nat->Prop)->(Nat->Option Obj)->List (Value->World->Prop)->Goroutine->World->Prop
  | done {Z:Nat->Prop} {orig:Nat->Option Obj} {g:Goroutine} {w:World}:g.status=.running->(∀ w1,Rel w w1->S g (thaw Z orig w1))->PW P c S Z orig [] g w
  | step {Z : Nat -> Prop} {orig : Nat -> Option Obj} {O : List (Value -> World -> Prop)} {g : Goroutine} {w : World} (nx : World -> Goroutine × World) : g.status = .running -> (∀ w1, Rel w w1 -> ZS P true Z g w1 (nx w1).1 (nx w1).2) ->
      (∀ w1,Rel w w1->PW P c S Z orig O (nx w1).1 (nx w1).2)->PW P c S Z orig O g w
  | fork {Z : Nat -> Prop} {orig : Nat -> Option Obj} {O : List (Value -> World -> Prop)} {g : Goroutine} {w : World} (g' child : Goroutine) (C : Nat -> Prop) (φ : Value -> World -> Prop) : g.status = .running -> (∀ W, stepG P true g W = .spawn g' child W #[]) ->
      (∀ w1,Rel w w1->Rows C w1)->(∀ w1,Rel w w1->Wlk (Jw P fun b=>Z b\/C b) (fun g w=>∃ k,JJ P c φ k g w) child (hid (fun b=>Z b\/C b) (frz C w1))) ->
      (∀ w1,Rel w w1->PW P c S (fun b=>Z b\/C b) (Jf Z C w1 orig) (O++[φ]) g' (frz C w1))->PW P c S Z orig O g w
  | recv {Z : Nat -> Prop} {orig : Nat -> Option Obj} {O : List (Value -> World -> Prop)} {g : Goroutine} {w : World} (g2 : Goroutine) (z : Value) : g.status = .running -> (∀ W, stepG P true g W = .comm g2 #[rcase c z] true (.recv false) W #[]) -> O ≠ [] ->
      (∀ O1 φ O2,O=O1++φ::O2->∀ w1 xw w' v,Rel w w1->φ v xw->Shows xw w'->More w1 w'->(∀ b,b < c->w'.heap[b]?=w1.heap[b]?)->PW P c S Z orig (O1++O2) (Conc.served g2 v) w')->PW P c S Z orig O g w
theorem PW.running {P:Program} {c:Nat} {S:Goroutine->World->Prop} {Z:Nat->Prop} {orig:Nat->Option Obj} {O:List (Value->World->Prop)} {g:Goroutine} {w:World} (h:PW P c S Z orig O g w):g.status=.running:=by
 cases h<;>assumption

def Fin0 (P:Program) (Sh:Loc->Prop) (S:Goroutine->World->Prop) (Fs:Nat->Prop) (Ws:World) (gs:Array Goroutine) (W:World) (t:Trace):Prop :=
 ∃ g F w q,gs[0]?=some g/\S g w/\MI P Sh F w gs W t q/\Went Fs Ws F W

section
variable {P:Program} {Sh:Loc->Prop} {c:Nat} {Fs:Nat->Prop} {Ws:World} {mp:Bool} {Z:Nat->Prop} {orig:Nat->Option Obj} {O:List (Value->World->Prop)} {g:Goroutine} {w:World}
variable {vs:Nat->Option View} {ph:Nat->Value->World->Prop} {A:List Nat} {τ:List Tr} {gs:Array Goroutine} {W:World} {t:Trace} {S:Goroutine->World->Prop}

theorem QAc {e g:Nat} (h:Knows t 0 e) (hg:t.g? e=some g) (hne:g≠0):∃ j,t.g? j=some 0/\HappensBefore t e j:=by
 obtain ⟨q,z,h1,h2,h3⟩:=h;rcases h3 with rfl | h3
 ·grind [absurd,Trace.g?]
 grind [Trace.g?]

theorem Cfg.done (hSh:∀ (l:Loc) (ad:Addr),AtL l ad->Sh l->ad.block < Ws.heap.size/\¬ Fs ad.block) (h:Cfg P Sh c Fs Ws false Z orig [] g w vs ph A τ gs W t) (hS:S g (thaw Z orig w)):Fin0 P Sh S Fs Ws gs W t:=by
 obtain ⟨F,h0,hF⟩:=h.main;have hs0:=(h.pi.seen 0 _ h0).2;have hA:A=[]:=by have:=h.posts;simp_all
 have hno:∀ j,j≠0->vs j=none:=fun j hj=>by
  cases hv:vs j with
  | none=>rfl
  | some x=>have:=(h.act j).2 ⟨hj,by rw [hv];rfl⟩;simp_all
 have hk0:∀ e,(∃ j,(vs j).isSome=true/\Knows t j e)->Knows t 0 e:=fun e ⟨j,h1,h2⟩=>by
  grind
 have hq:∀ i:Nat,∃ k,∀ gi,i≠0->gs[i]?=some gi->QuitsD P k (Deaf t i) gi:=fun i=>by
  by_cases hi:i≠0/\∃ gi,gs[i]?=some gi
  ·obtain ⟨hi0,gi,hgi⟩:=hi;obtain ⟨r,_,hr⟩:=h.oth i gi hi0 hgi;rw [hno i hi0] at hr;obtain ⟨k,_,hk⟩:=hr;exact ⟨k,fun gi' _ hgi'=>by simp_all⟩
  simp_all
 refine ⟨g,F,_,fun i=>Classical.choose (hq i),h.g0,hS,⟨?_,?_,hs0.bnd,fun l ad hat had hsh=>?_,fun l ad hat hsh=>Ee (hSh l ad hat hsh).1 h.size,⟨h.pi.clean,fun e a ha hm=>?_,fun e g hge hne hc=>?_,hs0.deaf,h.pi.low⟩,⟨fun i gi hi hgi=>Classical.choose_spec (hq i) gi (by omega) hgi,h.pi.above⟩⟩,⟨hF,fun b hb=>h.bas 0 _ h0 b hb,h.keep,h.size,h.same⟩⟩
 ·refine ⟨hs0.agr.tape,hs0.agr.drawn,hs0.agr.os,hs0.agr.output,by rw [Qkr];exact hs0.agr.size,fun b hb _=>?_,fun b _ h=>h.elim,fun b hb hlt=>?_,fun b h=>h.elim⟩
  ·have hlt:=hs0.bnd b hb;have hlt':b < w.heap.size:=by rw [<-hs0.agr.size];exact hlt
   rw [Qby];by_cases hz:Z b
   ·rw [Ed hlt'];simp only [Eg,if_pos hz];have:=h.orig b hz
    grind
   ·rw [hs0.agr.own b hb hz];simp [hz]
  ·rw [Qkr] at hlt;have hz:¬ Z b:=fun hz=>hb (hs0.agr.zf b hz)
   rw [Qby,hs0.agr.hid b hb hlt];simp [hz]
 ·intro b a u e;rw [Qby] at e;cases hb:w.heap[b]? with
  | none=>simp_all
  | some o =>
   rw [hb] at e;simp only [Eg,Eh.injEq] at e;by_cases hz:Z b
   ·rw [if_pos hz] at e;obtain ⟨cs,e1,fz,h1,h2⟩:=hs0.agr.shr b (hs0.agr.zf b hz) hz;rw [<-h.orig b hz,h2] at e;cases e
   ·rw [if_neg hz] at e;subst e;exact hs0.nov b a u hb
 ·obtain ⟨h1,h2⟩:=hSh l ad hat hsh;rcases h.bas 0 _ h0 ad.block had with h3 | h3
  ·exact h2 h3
  ·omega
 ·rcases h.pi.known e a ha hm with h4 | h4 | h4
  ·grind
  ·grind
  grind
 ·rcases h.pi.over e g hge hne hc with h4 | h4
  ·exact h4
  grind [QAc]

theorem Cfg.own (h:Cfg P Sh c Fs Ws false Z orig O g w vs ph A τ gs W t) {g':Goroutine} {w':World} (hv:ZS P true Z g w g' w') (hr:g'.status=.running) (sl:Option (Nat×Nat)) :
    ∃ (ops:Trace) (gs':Array Goroutine) (W':World) (vs':Nat->Option View),runT P (crowd gs W sl) 0=(.next (crowd gs' W' sl),ops)/\Cfg P Sh c Fs Ws false Z orig O g' w' vs' ph A τ gs' W' (t++ops):=by
  obtain ⟨F,h0,hF⟩:=h.main;have hs0:=(h.pi.seen 0 _ h0).2;obtain ⟨s,hs⟩:=h.pi.chan;obtain ⟨hnv,hstep⟩:=hv hs0.nov;obtain ⟨F',W',es,hgo,hat,hes⟩:=hstep F W hs0.agr;have hcl:=h.pi.chan_lt;have hlt:0 < gs.size:=(Ea.1 h.g0).1;have hs':W'.heap[c]?=some (.chan 0 #[] false s s false):=by rw [hat.keep c hcl (.inl hs0.chan)];exact hs
  have hrun:=runT_crowd_go (P:=P) (sl:=sl) (i:=0) h.g0 (show stepG P (0 == 0) g W=_ from hgo);rw [h.places.woken hs'] at hrun;have hpi:=h.pi.step h0 hat hnv hes g.frame.fn g.frame.place;have hg:∀ op∈MemOp.ofEvents 0 g.frame.fn g.frame.place es,op.g=0:=fun op hop=>by grind [Conc.mem_ofEvents]
  refine ⟨_,_,_,Jh vs 0 (some ⟨fun b=>F' b/\b < W'.heap.size,Z,w'⟩) W',hrun,?_⟩;refine ⟨by simp_all,⟨fun b=>F' b/\b < W'.heap.size,by rfl,fun b hb=>⟨hat.more b (hF b hb),Ee (hs0.bnd b (hF b hb)) hat.size⟩⟩,by simp [hlt],by grind,by simp [h.len],h.nod,fun j=>?_,h.posts,fun j gj hj hgj=>?_,fun b hb=>?_,fun j y hy b hb=>?_,Em h.size hat.size,fun b hb hn=>?_,
    ⟨hat.same.1.trans h.same.1,hat.same.2.1.trans h.same.2.1,hat.same.2.2.trans h.same.2.2⟩⟩
  · rw [h.act j]
    grind [Zj]
  · rw [Eb (Ne.symm hj)] at hgj;rw [Deaf_other t (Ne.symm hj) _ hg,Zj hj];obtain ⟨r2,h1,h2⟩:=h.oth j gj hj hgj;exact ⟨r2,h1,h2.grown _ fun y=>⟨rfl,Qbo⟩⟩
  · rw [hat.keep b (hs0.bnd b (hs0.agr.zf b hb)) (.inr hb)];exact h.orig b hb
  · by_cases hj:j=0
    · subst hj;rw [ZO] at hy;cases hy;rcases hat.new b hb.1 with h1 | h1
      · exact h.bas 0 _ h0 b h1
      · exact .inr (Em h.size h1.1)
    · rw [Zj hj] at hy;obtain ⟨y0,hy0,rfl⟩:=Ec.1 hy;exact h.bas j y0 hy0 b hb
  · rw [hat.keep b (Ee hb h.size) (.inl fun hxb => by
      rcases h.bas 0 _ h0 b hxb with h1 | h1
      · exact hn h1
      · omega)]
    exact h.keep b hb hn

theorem Cfg.fork (h:Cfg P Sh c Fs Ws false Z orig O g w vs ph A τ gs W t) {g' child:Goroutine} {C:Nat->Prop} {φ:Value->World->Prop} (hst:∀ W,stepG P true g W=.spawn g' child W #[]) (hC:Rows C w)
    (hw:Wlk (Jw P fun b=>Z b\/C b) (fun g w=>∃ k,JJ P c φ k g w) child (hid (fun b=>Z b\/C b) (Gw.frz C w))) (hr:g'.status=.running) (sl:Option (Nat×Nat)) :
    ∃ (ops:Trace) (gs':Array Goroutine) (vs':Nat->Option View) (ph':Nat->Value->World->Prop) (A':List Nat) (τ':List Tr),runT P (crowd gs W sl) 0=(.next (crowd gs' W sl),ops) /\
      Cfg P Sh c Fs Ws false (fun b=>Z b\/C b) (Jf Z C w orig) (O++[φ]) g' (Gw.frz C w) vs' ph' A' τ' gs' W (t++ops):=by
  obtain ⟨F,h0,hF⟩:=h.main;have hs0:=(h.pi.seen 0 _ h0).2;have hlt:0 < gs.size:=(Ea.1 h.g0).1;obtain ⟨τc,hτc⟩:=WT.of (fun _ _ _ h=>h.1) hw;have hCF:∀ b,C b->F b:=fun b hb=>Classical.byContradiction fun hn=>by
    obtain ⟨cs,e,fz,h1⟩:=hC b hb;rw [hs0.agr.hid b hn (Ea.1 h1).1] at h1;cases h1
  have hrun:=runT_crowd_spawn (P:=P) (sl:=sl) (i:=0) h.g0 (show stepG P (0 == 0) g W=_ from hst W);have hpi:=h.pi.fork h0 hCF hC g.frame.fn child.frame.fn g.frame.place g.frame.place
  have et : t ++ ((MemOp.ofEvents 0 g.frame.fn g.frame.place #[]).push { g := 0, fn := g.frame.fn, pos := g.frame.place, act := .go gs.size } |>.push { g := gs.size, fn := child.frame.fn, pos := g.frame.place, act := .start }) =
      t++#[{ g:=0,fn:=g.frame.fn,pos:=g.frame.place,act:=.go gs.size }]++#[{ g:=gs.size,fn:=child.frame.fn,pos:=g.frame.place,act:=.start }]:=by
    rfl
  refine ⟨_,_,(fun j=>if j=0 then some ⟨F,fun b=>Z b\/C b,Gw.frz C w⟩ else if j=gs.size then some ⟨fun b=>Z b\/C b,fun b=>Z b\/C b,hid (fun b=>Z b\/C b) (Gw.frz C w)⟩ else vs j),fun j=>if j=gs.size then φ else ph j,A++[gs.size],τ++[τc],hrun,?_⟩;have hAn:gs.size∉A:=fun hm=>by
    obtain ⟨_,h2⟩:=(h.act _).1 hm;cases hv:vs gs.size with
    | none=>simp_all
    | some x=>have:=(h.pi.seen _ x hv).1;omega
  rw [et];have hsz:((gs.setIfInBounds 0 g').push child).size=gs.size+1:=by simp
  refine ⟨by simp_all,⟨F,by simp,hF⟩,?_,by grind,by simp [h.len],?_,fun j=>?_,?_,fun j gj hj hgj=>?_,fun b hb=>?_,fun j y hy b hb=>?_,h.size,h.keep,h.same⟩
  · grind
  · refine List.nodup_append.2 ⟨h.nod,by simp,fun a ha b hb e=>?_⟩;simp_all
  · rw [List.mem_append,h.act j]
    grind
  · rw [List.map_append];congr 1
    · rw [h.posts]
      grind [List.map_congr_left]
    · simp
  · rw [Array.getElem?_push] at hgj;by_cases hjn:j=gs.size
    · subst hjn;rw [if_pos (by simp)] at hgj;cases hgj;refine ⟨τc,by rw [<-h.len];simp,?_⟩;rw [if_neg hj,if_pos rfl];simp only [if_true];exact .inl hτc
    · rw [if_neg (by grind),Eb (Ne.symm hj)] at hgj;obtain ⟨r,h1,h2⟩:=h.oth j gj hj hgj;have hjl:j < τ.length:=(List.getElem?_eq_some_iff.1 h1).1;refine ⟨r,by grind,?_⟩;rw [if_neg hj,if_neg hjn,Z7 (Qeq ..),Z7 (Qcm ..)];simp_all
  · unfold Jf;by_cases hz:Z b
    · rw [if_pos hz];exact h.orig b hz
    · rw [if_neg hz];exact hs0.agr.own b (hCF b (hb.resolve_left hz)) hz
  · by_cases hj:j=0
    · rw [if_pos hj] at hy;cases hy;exact h.bas 0 _ h0 b hb
    · rw [if_neg hj] at hy;by_cases hjn:j=gs.size
      · rw [if_pos hjn] at hy;cases hy;exact h.bas 0 _ h0 b (hb.elim (hs0.agr.zf b) (hCF b))
      · rw [if_neg hjn] at hy;exact h.bas j y hy b hb
end
end Go.Gw

end
section
set_option linter.unusedVariables false
namespace Go.Gw
open Go Go.Conc
section
variable {P:Program} {Sh:Loc->Prop} {c:Nat} {Fs:Nat->Prop} {Ws:World} {mp:Bool} {Z:Nat->Prop} {orig:Nat->Option Obj} {O:List (Value->World->Prop)} {g:Goroutine} {w:World}
variable {vs:Nat->Option View} {ph:Nat->Value->World->Prop} {A:List Nat} {τ:List Tr} {gs:Array Goroutine} {W:World} {t:Trace} {S:Goroutine->World->Prop}

theorem Role.weaken {v:Option View} {φ:Value->World->Prop} {d:Nat} {r:Tr} {g:Goroutine} (h:Role P c mp v φ d r g):Role P c false v φ d r g:=by
 cases v with
 | none=>exact h
 | some x=>exact h.imp id fun ⟨_,h⟩=>⟨rfl,h⟩

theorem Cfg.meet (hc0:Ws.heap.size=c) (h:Cfg P Sh c Fs Ws mp Z orig O g w vs ph A τ gs W t) {i:Nat} {x:View} (hi0:i≠0) (hv:vs i=some x) {s:Nat} (hs:W.heap[c]?=some (.chan 0 #[] false s s false)) {k:Nat} {g' gw:Goroutine} {v:Value} (hq:QuitsD P k 0 gw) (hφ:ph i v x.w) (hr:g'.status=.running)
    {gs':Array Goroutine} (hsz:gs'.size=gs.size) (hg0:gs'[0]?=some g') (hgi:gs'[i]?=some gw) (hgj:∀ j,j≠0->j≠i->gs'[j]?=gs[j]?) (f1 f2 f3 f4:FuncId) (p1 p2 p3 p4:String) :
    ∃ (O1 O2:List (Value->World->Prop)) (w':World) (vs':Nat->Option View) (A':List Nat) (τ':List Tr),O=O1++ph i::O2/\Shows x.w w'/\More w w'/\(∀ b,b < c->w'.heap[b]?=w.heap[b]?) /\
      Cfg P Sh c Fs Ws false Z orig (O1++O2) g' w' vs' ph A' τ' gs' (W.passed c s s false)
        (t++#[{ g:=i,fn:=f1,pos:=p1,act:=.send c s },{ g:=0,fn:=f2,pos:=p2,act:=.recv c s 0 },{ g:=i,fn:=f3,pos:=p3,act:=.sendDone c s },{ g:=0,fn:=f4,pos:=p4,act:=.recvDone c s }]):=by
  obtain ⟨F,h0,hF⟩:=h.main;have hs0:=(h.pi.seen 0 _ h0).2;obtain ⟨hin,hsx⟩:=h.pi.seen i x hv;have hiA:i∈A:=(h.act i).2 ⟨hi0,by rw [hv];rfl⟩;obtain ⟨A1,A2,hA⟩:=List.append_of_mem hiA;have hnd:=h.nod;rw [hA] at hnd;obtain ⟨hn1,hn2,hn3⟩:=List.nodup_append.1 hnd;obtain ⟨hn4,hn5⟩:=List.nodup_cons.1 hn2;have hi12:i∉A1++A2:=fun hm=>by
    grind
  have hn12:(A1++A2).Nodup:=List.nodup_append.2 ⟨hn1,hn5,fun a ha b hb=>hn3 a ha b (List.mem_cons_of_mem _ hb)⟩;have hap:=h.pi.apart 0 i _ x (Ne.symm hi0) h0 hv;have hpi:=h.pi.meet h0 hv hi0 hs f1 f2 f3 f4 p1 p2 p3 p4;refine ⟨A1.map ph,A2.map ph,Zu ⟨F,Z,w⟩ x,(fun j=>if j=0 then some ⟨fun b=>F b\/x.F b,Z,Zu ⟨F,Z,w⟩ x⟩ else if j=i then none else vs j),A1++A2,τ.set i (nt k),by rw [h.posts,hA];simp,QBr hs0.agr hsx.agr hap,QBp hs0.agr,fun b hb=>?_,?_⟩
  · rw [Qai];cases hw:w.heap[b]? with
    | none=>rfl
    | some o =>
      simp only [Eg,Eh.injEq];by_cases hFb:F b
      · grind
      · have hj:=hs0.agr.hid b hFb (Ea.1 hw).1;rw [hw] at hj;cases hj;rw [if_neg hFb,if_neg];intro hx;rcases h.bas i x hv b hx with h1 | h1
        · simp_all
        · omega
  have et : t ++ #[{ g := i, fn := f1, pos := p1, act := .send c s }, { g := 0, fn := f2, pos := p2, act := .recv c s 0 }, { g := i, fn := f3, pos := p3, act := .sendDone c s }, { g := 0, fn := f4, pos := p4, act := .recvDone c s }] =
      t++#[{ g:=i,fn:=f1,pos:=p1,act:=.send c s }]++#[{ g:=0,fn:=f2,pos:=p2,act:=.recv c s 0 }]++#[{ g:=i,fn:=f3,pos:=p3,act:=.sendDone c s }]++#[{ g:=0,fn:=f4,pos:=p4,act:=.recvDone c s }]:=by
    rfl
  rw [et];have hdeaf:∀ j,Deaf (t++#[{ g:=i,fn:=f1,pos:=p1,act:=.send c s }]++#[{ g:=0,fn:=f2,pos:=p2,act:=.recv c s 0 }]++#[{ g:=i,fn:=f3,pos:=p3,act:=.sendDone c s }]++#[{ g:=0,fn:=f4,pos:=p4,act:=.recvDone c s }]) j=Deaf t j:=fun j=>by
    grind [Z7,Qhs,Qep,Qen,Qeo]
  refine ⟨by simp_all,⟨fun b=>F b\/x.F b,if_pos rfl,fun b hb=>.inl (hF b hb)⟩,hg0,by grind,by rw [List.length_set,h.len,hsz],hn12,fun j=>?_,by simp,fun j gj hj hgjj=>?_,fun b hb=>?_,fun j y hy b hb=>?_,by grind [passed_size],fun b hb hn=>?_,h.same⟩
  · have hm:j∈A↔j=i\/j∈A1++A2:=by grind
    by_cases hj:j=0
    · subst hj;simp only [ne_eq,not_true_eq_false,false_and,iff_false];intro h1;exact ((h.act 0).1 (hm.2 (.inr h1))).1 rfl
    · by_cases hji:j=i
      · simp_all
      · simp only [hj,hji,if_false,ne_eq,not_false_eq_true,true_and];have:=h.act j;simp_all
  · rw [hdeaf j];simp only [hj,if_false];by_cases hji:j=i
    · subst hji;rw [hgi] at hgjj;cases hgjj;have hlt:j < τ.length:=by rw [h.len];exact hin
      refine ⟨nt k,by simp_all,?_⟩;rw [if_pos rfl,hsx.deaf];exact ⟨k,rfl,hq⟩
    · rw [hgj j hj hji] at hgjj;rw [List.getElem?_set_ne (Ne.symm hji),if_neg hji];obtain ⟨r,h1,h2⟩:=h.oth j gj hj hgjj;exact ⟨r,h1,h2.weaken⟩
  · have hbF:=hs0.agr.zf b hb;rw [Qfz (fun (e:b=c)=>hs0.chan (e▸hbF))];exact h.orig b hb
  · by_cases hj:j=0
    · rw [if_pos hj] at hy;cases hy;exact hb.elim (h.bas 0 _ h0 b) (h.bas i x hv b)
    · rw [if_neg hj] at hy;by_cases hji:j=i
      · simp_all
      · rw [if_neg hji] at hy;exact h.bas j y hy b hb
  · rw [Qfz (by omega)];exact h.keep b hb hn

theorem Qqx {g2 g3:Goroutine} {cs cs':Array CommCase} {sh sh':CommShape} (h:parked g2 cs sh=parked g3 cs' sh') (v:Value):Conc.served g2 v=Conc.served g3 v:=by
 grind [Goroutine,Conc.served,parked]
theorem QEu (hc0:Ws.heap.size=c) {g2:Goroutine} {z:Value} (hO:O≠[])
    (hk:∀ O1 φ O2,O=O1++φ::O2->∀ w1 xw w' v,Rel w w1->φ v xw->Shows xw w'->More w1 w'->(∀ b,b < c->w'.heap[b]?=w1.heap[b]?)->∀ w2,Rel w' w2->∀ τ vs ph A gs W sl t,Cfg P Sh c Fs Ws false Z orig (O1++O2) (Conc.served g2 v) w2 vs ph A τ gs W t->Reach P (Fin0 P Sh S Fs Ws) gs W sl t) :
    ∀ τ w1,Rel w w1->∀ vs ph A gs W sl t,Cfg P Sh c Fs Ws true Z orig O (parked g2 #[rcase c z] (.recv false)) w1 vs ph A τ gs W t->Reach P (Fin0 P Sh S Fs Ws) gs W sl t:=by
  intro τ
  induction Qcf τ with
  | intro τ _ ih =>
    intro w1 hr vs ph A gs W sl t h
    -- someone walks
    have hrun:∃ (i:Nat) (gi:Goroutine),gs[i]?=some gi/\gi.status=.running:=by
      have hA:A≠[]:=fun e=>by have:=h.posts;simp_all
      obtain ⟨i,hi⟩:=List.exists_mem_of_ne_nil _ hA;obtain ⟨hi0,hvi⟩:=(h.act i).1 hi;cases hv:vs i with
      | none=>simp_all
      | some x =>
        have hlt:=(h.pi.seen i x hv).1;obtain ⟨r,_,hrole⟩:=h.oth i _ hi0 (Ed hlt);rw [hv] at hrole;rcases hrole with h1 | ⟨h1,_⟩
        · exact ⟨i,_,Ed hlt,h1.running⟩
        · cases h1
    obtain ⟨i,gi,d,sl',hgi,hrg,hst,h'⟩:=h.pick hrun sl;have hi0:i≠0:=fun e=>by
      subst e;rw [h.g0] at hgi;grind [parked]
    rcases h'.other hgi hi0 hrg sl' with ⟨ops,gs',W',vs',τ',w',h1,h2,h3,h4⟩ | ⟨_,x,k,hv,hs⟩
    · exact Reach.step (hst.trans h1) (ih τ' h2 w' (hr.trans ((YC _ d).trans h3)) vs' ph A gs' W' sl' _ h4)
    · -- they meet
      obtain ⟨_,gw2,v,z2,hcm,hq,hφ⟩:=hs;obtain ⟨hlt,_⟩:=Ea.1 hgi;have hlt0:0 < gs.size:=(Ea.1 h.g0).1;have hb0:(i == 0)=false:=by simp [hi0]
      obtain ⟨s,hsc⟩:=h'.pi.chan;have hF2:JH c (gs.setIfInBounds i fin0):=(h'.places.fin i).form;have h0i:(gs.setIfInBounds i fin0)[0]?=some (parked g2 #[rcase c z] (.recv false)):=by rw [Eb hi0];exact h.g0
      have hne:partners (gs.setIfInBounds i fin0) c false≠[]:=fun e=>by
        have:(0,0)∈partners (gs.setIfInBounds i fin0) c false:=(Qjr hF2).2 ⟨rfl,g2,z,h0i⟩;simp_all
      obtain ⟨d2,j,g3,z3,hj,hcomm⟩:=Qvd (P:=P) (rest:={ timers:=#[],alone:=none,slice:=sl' }) (i:=i) (g:=gw2) (v:=v) (z:=z2) hsc hF2 hne;have hj0:j=0:=by
        refine Classical.byContradiction fun hj0=>?_;by_cases hji:j=i
        · simp_all [parked,congrArg,Ev,Goroutine.status]
        · rw [Eb (Ne.symm hji)] at hj;obtain ⟨r3,_,hr3⟩:=h'.oth j _ hj0 hj;rcases hr3.place with h1 | h1 | ⟨g4,v4,z4,h1⟩
          · trivial
          · trivial
          grind [parked,rcase,scase]
      subst hj0;rw [h0i] at hj;have hsv:=Qqx (Eh.inj hj) v;have hrT:=Qjx (P:=P) (sl:=sl') (i:=i) hgi (by rw [hb0];exact hcm (W.at d));rw [hcomm,Qcy] at hrT;obtain ⟨O1,O2,w',vs',A',τ',e1,e2,e3,e5,e4⟩:=h'.meet hc0 (k:=k) (g':=Conc.served g2 v) (gw:=Conc.served gw2 undef) (v:=v) (gs':=((gs.setIfInBounds i fin0).setIfInBounds 0 (Conc.served g3 v)).setIfInBounds i (Conc.served gw2 undef)) hi0 hv hsc hq (hφ _ (Ef _)) rfl (by simp)
        (by simp_all) (by simp [hlt]) (fun j hj hji=>by grind)
        gw2.frame.fn g3.frame.fn gw2.frame.fn g3.frame.fn gw2.frame.place g3.frame.place gw2.frame.place g3.frame.place
      refine Reach.step (hst.trans hrT) ?_;simp only [Eu];exact hk O1 (ph i) O2 e1 _ x.w w' v (hr.trans (YC _ d)) (hφ _ (Ef _)) e2 e3 e5 _ (YC w' d2) τ' _ ph A' _ _ sl' _ (e4.at d2)
end
end Go.Gw

end
section
set_option linter.unusedVariables false
namespace Go.Gw
open Go Go.Conc
section
variable {P:Program} {Sh:Loc->Prop} {c:Nat} {Fs:Nat->Prop} {Ws:World} {S:Goroutine->World->Prop}

theorem QEt (hc0:Ws.heap.size=c) (hSh:∀ (l:Loc) (ad:Addr),AtL l ad->Sh l->ad.block < Ws.heap.size/\¬ Fs ad.block) {Z:Nat->Prop} {orig:Nat->Option Obj} {O:List (Value->World->Prop)} {g:Goroutine} {w:World} (h:PW P c S Z orig O g w) :
    ∀ w1,Rel w w1->∀ τ vs ph A gs W sl t,Cfg P Sh c Fs Ws false Z orig O g w1 vs ph A τ gs W t->Reach P (Fin0 P Sh S Fs Ws) gs W sl t:=by
  induction h with
  | @done Z orig g w hrun hS =>
    intro w1 hr τ vs ph A gs W sl t h;exact Reach.here (h.done hSh (hS w1 hr))
  | @step Z orig O g w nx hrun hv hn ih =>
    intro w1 hr τ;revert w1
    induction Qcf τ with
    | intro τ _ ih2 =>
      intro w1 hr vs ph A gs W sl t h;obtain ⟨i,gi,d,sl',hgi,hrg,hst,h'⟩:=h.pick ⟨0,g,h.g0,hrun⟩ sl;by_cases hi0:i=0
      · subst hi0;obtain ⟨ops,gs',W',vs',h1,h2⟩:=h'.own (hv _ (hr.trans (YC _ d))) (hn _ (hr.trans (YC _ d))).running sl';exact Reach.step (hst.trans h1) (ih _ (hr.trans (YC _ d)) _ (Ef _) τ vs' ph A gs' W' sl' _ h2)
      · rcases h'.other hgi hi0 hrg sl' with ⟨ops,gs',W',vs',τ',w',h1,h2,h3,h4⟩ | ⟨h1,_⟩
        · exact Reach.step (hst.trans h1) (ih2 τ' h2 w' (hr.trans ((YC _ d).trans h3)) vs' ph A gs' W' sl' _ h4)
        · cases h1
  | @fork Z orig O g w g' child C φ hrun hsp hC hw hn ih =>
    intro w1 hr τ;revert w1
    induction Qcf τ with
    | intro τ _ ih2 =>
      intro w1 hr vs ph A gs W sl t h;obtain ⟨i,gi,d,sl',hgi,hrg,hst,h'⟩:=h.pick ⟨0,g,h.g0,hrun⟩ sl;by_cases hi0:i=0
      · subst hi0;have hr2:=hr.trans (YC w1 d);obtain ⟨ops,gs',vs',ph',A',τ',h1,h2⟩:=h'.fork hsp (hC _ hr2) (hw _ hr2) (hn _ hr2).running sl'
        grind [Reach.step,Ef]
      · rcases h'.other hgi hi0 hrg sl' with ⟨ops,gs',W',vs',τ',w',h1,h2,h3,h4⟩ | ⟨h1,_⟩
        · exact Reach.step (hst.trans h1) (ih2 τ' h2 w' (hr.trans ((YC _ d).trans h3)) vs' ph A gs' W' sl' _ h4)
        · cases h1
  | @recv Z orig O g w g2 z hrun hcm hO hn ih =>
    have hk:∀ O1 φ O2,O=O1++φ::O2->∀ w1 xw w' v,Rel w w1->φ v xw->Shows xw w'->More w1 w'->(∀ b,b < c->w'.heap[b]?=w1.heap[b]?)->∀ w2,Rel w' w2->∀ τ vs ph A gs W sl t,Cfg P Sh c Fs Ws false Z orig (O1++O2) (Conc.served g2 v) w2 vs ph A τ gs W t->Reach P (Fin0 P Sh S Fs Ws) gs W sl t :=
      fun O1 φ O2 e w1 xw w' v hr hφ hs hm hl=>ih O1 φ O2 e w1 xw w' v hr hφ hs hm hl
    intro w1 hr τ;revert w1
    induction Qcf τ with
    | intro τ _ ih2 =>
      intro w1 hr vs ph A gs W sl t h;obtain ⟨i,gi,d,sl',hgi,hrg,hst,h'⟩:=h.pick ⟨0,g,h.g0,hrun⟩ sl;by_cases hi0:i=0
      · subst hi0;rw [h.g0] at hgi;cases hgi;have hr2:=hr.trans (YC w1 d);have hlt0:0 < gs.size:=(Ea.1 h.g0).1;obtain ⟨s,hsc⟩:=h'.pi.chan;have hF2:JH c (gs.setIfInBounds 0 fin0):=(h'.places.fin 0).form;have hrT:=Qjx (P:=P) (sl:=sl') (i:=0) h.g0 (show stepG P (0 == 0) g (W.at d)=_ from hcm (W.at d));by_cases hp:partners (gs.setIfInBounds 0 fin0) c true=[]
        · -- it Qcb
          rw [Qvc hsc hp rfl,Qcy] at hrT;have hgs:(gs.setIfInBounds 0 fin0).setIfInBounds 0 (parked g2 #[rcase c z] (.recv false))=gs.setIfInBounds 0 (parked g2 #[rcase c z] (.recv false)):=by
            simp
          rw [hgs] at hrT;refine Reach.step (hst.trans hrT) ?_;simp only [Es];refine QEu hc0 (g2:=g2) (z:=z) hO hk τ (w1.at d) hr2 (Ju vs d) ph A _ _ sl' t ?_;refine ⟨by rw [El];exact h'.pi,h'.main,by simp [hlt0],⟨g2,z,rfl⟩,by simp [h'.len],h'.nod,h'.act,h'.posts,fun j gj hj hgj=>?_,h'.orig,h'.bas,h'.size,h'.keep,h'.same⟩;rw [Eb (Ne.symm hj)] at hgj;obtain ⟨r,h1,h2⟩:=h'.oth j gj hj hgj;refine ⟨r,h1,?_⟩;cases hv:Ju vs d j with
          | none=>rw [hv] at h2;exact h2
          | some x =>
            rw [hv] at h2;rcases h2 with h2 | ⟨_,k,gw,v,z',h3,_⟩
            · exact .inl h2
            · exfalso;have:(j,0)∈partners (gs.setIfInBounds 0 fin0) c true:=(Qqd hF2).2 ⟨rfl,gw,v,z',by grind⟩;simp_all
        · -- they meet
          obtain ⟨d2,j,g3,v,z3,hj,hcomm⟩:=Qvb (P:=P) (rest:={ timers:=#[],alone:=none,slice:=sl' }) (i:=0) (g:=g2) (z:=z) hsc hF2 hp;rw [hcomm,Qcy] at hrT;have hj0:j≠0:=fun e=>by
            simp_all [parked,congrArg,Ev,Goroutine.status]
          have hgj:gs[j]?=some (parked g3 #[scase c v z3] .send):=by grind
          obtain ⟨hltj,_⟩:=Ea.1 hgj;obtain ⟨r,_,hrole⟩:=h'.oth j _ hj0 hgj;cases hv:Ju vs d j with
          | none =>
            rw [hv] at hrole;obtain ⟨k,_,hq⟩:=hrole;rcases hq.status with h1 | h1<;>simp [parked] at h1
          | some x =>
            rw [hv] at hrole;rcases hrole with h1 | ⟨_,k,gw,v',z',h3,hq,hφ⟩
            · have:=h1.running;trivial
            · have hvv : v' = v := by
                simp_all [parked,scase,congrArg,Goroutine]
              subst hvv;have hsv:=Qqx h3 undef;obtain ⟨O1,O2,w',vs',A',τ',e1,e2,e3,e5,e4⟩:=h'.meet hc0 (k:=k) (g':=Conc.served g2 v') (gw:=Conc.served g3 undef) (v:=v') (gs':=((gs.setIfInBounds 0 fin0).setIfInBounds j (Conc.served g3 undef)).setIfInBounds 0 (Conc.served g2 v')) hj0 hv hsc (by simp_all) (hφ _ (Ef _)) rfl (by simp)
                (by simp [hlt0]) (by grind) (fun l hl hlj=>by grind)
                g3.frame.fn g2.frame.fn g3.frame.fn g2.frame.fn g3.frame.place g2.frame.place g3.frame.place g2.frame.place
              refine Reach.step (hst.trans hrT) ?_;simp only [Eu];exact hk O1 (ph j) O2 e1 _ x.w w' v' hr2 (hφ _ (Ef _)) e2 e3 e5 _ (YC w' d2) τ' _ ph A' _ _ sl' _ (e4.at d2)
      · rcases h'.other hgi hi0 hrg sl' with ⟨ops,gs',W',vs',τ',w',h1,h2,h3,h4⟩ | ⟨h1,_⟩
        · exact Reach.step (hst.trans h1) (ih2 τ' h2 w' (hr.trans ((YC _ d).trans h3)) vs' ph A gs' W' sl' _ h4)
        · cases h1
end
end Go.Gw

end
section
set_option linter.unusedVariables false
namespace Go.Gw
open Go Go.Conc
open Go.ConcN (sumTo upd sumTo_upd upd_ne upd_same)
section
variable {P:Program} {Sh:Loc->Prop} {F F':Nat->Prop} {w w':World} {gs:Array Goroutine} {W W' W2:World} {t:Trace} {q:Nat->Nat} {g:Goroutine}

theorem Went.refl (F:Nat->Prop) (W:World):Went F W F W:=⟨fun _ h=>h,fun _ h=>.inl h,fun _ _ _=>rfl,En _,rfl,rfl,rfl⟩
theorem Went.at (F:Nat->Prop) (W:World) (d:Nat):Went F W F (W.at d):=⟨fun _ h=>h,fun _ h=>.inl h,fun _ _ _=>rfl,En _,rfl,rfl,rfl⟩
theorem Went.trans {F2:Nat->Prop} (h:Went F W F' W') (k:Went F' W' F2 W2):Went F W F2 W2 :=
 ⟨fun b hb=>k.more b (h.more b hb),fun b hb=>(k.new b hb).elim (h.new b) fun h1=>.inr (Em h.size h1),fun b hb hn=>by
  rw [k.keep b (Ee hb h.size) fun hF=>(h.new b hF).elim hn (fun h1=>by omega)];exact h.keep b hb hn,Em h.size k.size,k.same.1.trans h.same.1,k.same.2.1.trans h.same.2.1,k.same.2.2.trans h.same.2.2⟩

theorem MI.at (h:MI P Sh F w gs W t q) (d:Nat):MI P Sh F (w.at d) gs (W.at d) t q:=⟨h.agr.at d,h.nov.rel (YC _ d),h.bnd,h.shun,h.shlt,h.past,h.lv⟩
theorem MI.awake (h:MI P Sh F w gs W t q) (h0:gs[0]?=some g) (hr:g.status=.running):∀ x∈gs,Conc.awake x:=fun x hx=>by
 obtain ⟨i,hi,rfl⟩:=Eq_.1 hx;rcases Nat.eq_zero_or_pos i with rfl | hpos
 ·grind [awake_of,Ed]
 ·exact awake_of ((h.lv.old i _ hpos (Ed hi)).status.elim .inl fun x=>.inr (.inr x))
theorem MI.woken (h:MI P Sh F w gs W t q) (h0:gs[0]?=some g) (hr:g.status=.running) (a b:Goroutine) (w2:World):gs.map (Conc.woken P a b w2)=gs:=by
 apply Ej;intro i;rw [Et];cases hi:gs[i]? with
 | none=>rfl
 | some o =>
  simp only [Eg,Eh.injEq];rcases Nat.eq_zero_or_pos i with rfl | hpos
  ·grind [woken_run]
  ·exact woken_quitsD (h.lv.old i o hpos hi)
theorem MI.slip (h:MI P Sh F w gs W t q) (h0:gs[0]?=some g) (hr:g.status=.running) {i:Nat} {gi:Goroutine} (hi:gs[i]?=some gi) (hi0:i≠0) (hri:gi.status=.running) (sl:Option (Nat×Nat)) :
  ∃ (ops:Trace) (gs':Array Goroutine) (q':Nat->Nat),runT P (crowd gs W sl) i=(.next (crowd gs' W sl),ops)/\gs'[0]?=some g/\sumTo gs'.size q' < sumTo gs.size q/\MI P Sh F w gs' W (t++ops) q':=by
 have hpos:0 < i:=by omega
 have hq:=h.lv.old i gi hpos hi;have hib:(i == 0)=false:=by simp [hi0]
 have hlt:i < gs.size:=(Ea.1 hi).1;cases hqi:q i with
 | zero=>rw [hqi] at hq;rw [hq.1] at hri;cases hri
 | succ k =>
  rw [hqi] at hq;rcases hq with ⟨hf,_⟩ | ⟨_,g',es,hm,hstp,hq'⟩
  ·simp_all
  have hrunT:=runT_crowd_go (P:=P) (sl:=sl) (i:=i) hi (by rw [hib];exact hstp W);rw [h.woken h0 hr] at hrunT;have hsum:sumTo gs.size (upd q i k)+(k+1)=sumTo gs.size q+k:=by
   have:=sumTo_upd q k id hlt;simp_all
  refine ⟨_,_,upd q i k,hrunT,by simp_all,by grind,⟨h.agr,h.nov,h.bnd,h.shun,h.shlt,h.past.mute hi0 hm,⟨fun j x hj hx=>?_,fun j hj=>?_⟩⟩⟩
  ·by_cases hji:i=j
   ·grind [upd_same,Deaf_own,Eh.inj,Array.getElem?_setIfInBounds_self_of_lt]
   ·rw [Eb hji] at hx;rw [upd_ne q k (Ne.symm hji),Deaf_other t hji _ (fun op hop=>by grind [Conc.mem_ofEvents])];exact h.lv.old j x hj hx
  ·rw [Deaf_other t (g':=i) (by grind) _ (fun op hop=>by grind [Conc.mem_ofEvents])];exact h.lv.above j (by grind)

theorem MI.own (h:MI P Sh F w gs W t q) (h0:gs[0]?=some g) (hr:g.status=.running) {g':Goroutine} (hv:ZS P true (fun _=>False) g w g' w') (sl:Option (Nat×Nat)) :
  ∃ (ops:Trace) (gs':Array Goroutine) (W':World) (F':Nat->Prop),runT P (crowd gs W sl) 0=(.next (crowd gs' W' sl),ops)/\gs'[0]?=some g'/\MI P Sh F' w' gs' W' (t++ops) q/\Went F W F' W':=by
 obtain ⟨hnv,hstep⟩:=hv h.nov;obtain ⟨F',W',es,hgo,hat,hes⟩:=hstep F W h.agr;have hlt:0 < gs.size:=(Ea.1 h0).1;have hrun:=runT_crowd_go (P:=P) (sl:=sl) (i:=0) h0 (show stepG P (0 == 0) g W=_ from hgo);rw [h.woken h0 hr] at hrun;have hg:∀ op∈MemOp.ofEvents 0 g.frame.fn g.frame.place es,op.g=0:=fun op hop=>by grind [Conc.mem_ofEvents]
 have hb:∀ b,F' b->b < W'.heap.size:=fun b hb=>(hat.new b hb).elim (fun h1=>Ee (h.bnd b h1) hat.size) fun h1=>h1.2
 have hsh:∀ (l:Loc) (ad:Addr),AtL l ad->F' ad.block->¬ Sh l:=fun l ad hl had hs=>(hat.new _ had).elim (fun h1=>h.shun l ad hl h1 hs) fun h1=>by
  have:=h.shlt l ad hl hs;omega
 have hev:∀ e∈es,EvL Sh W'.heap.size e:=fun e he=>by
  refine ⟨fun x hx hs=>?_,(Qcr (hes e he)).1,(Qcr (hes e he)).2,Qic (hes e he) hb⟩
  grind [absurd,Qid]
 refine ⟨_,_,W',F',hrun,by simp [hlt],⟨hat.agr,hnv,hb,hsh,fun l ad hl hs=>Ee (h.shlt l ad hl hs) hat.size,(h.past.mono hat.size).own hev,⟨fun j x hj hx=>?_,fun j hj=>?_⟩⟩,⟨hat.more,fun b hb=>(hat.new b hb).imp id fun h1=>h1.1,fun b hb hn=>hat.keep b hb (.inl hn),hat.size,hat.same⟩⟩
 ·have hj0:0≠j:=by omega
  rw [Eb hj0] at hx;rw [Deaf_other t hj0 _ hg];exact h.lv.old j x hj hx
 ·rw [Deaf_other t (g':=0) (by grind) _ hg];exact h.lv.above j (by grind)
end
end Go.Gw

end
section
set_option linter.unusedVariables false
namespace Go.Gw
open Go Go.Conc
open Go.ConcN (sumTo upd sumTo_upd upd_ne upd_same)

def Jm (P:Program):Jd P:=⟨true,fun _=>False,fun g w S=>∀ Sh F gs W sl t q,MI P Sh F w gs W t q->gs[0]?=some g->Reach P (fun gs' W' t'=>∃ Sh',Fin0 P Sh' S F W gs' W' t') gs W sl t⟩

section
variable {P:Program} {Sh:Loc->Prop} {F F':Nat->Prop} {w w':World} {gs:Array Goroutine} {W W' W2:World} {t:Trace} {q:Nat->Nat} {g:Goroutine} {S:Goroutine->World->Prop}

theorem Qjw:∀ (N M:Nat) (m m':Machine) (t t':Trace),runNT P N m t=(.next m',t')->runNT P (N+M) m t=runNT P M m' t'
 | 0,M,m,m',t,t',h=>by simp_all [Nat.zero_add,runNT]
 | N+1,M,m,m',t,t',h=>by
  rw [Nat.succ_add];simp only [runNT] at h ⊢;cases hs:stepT P m with
  | mk s ops =>
   rw [hs] at h;cases s with
   | next m1=>exact Qjw N M m1 m' _ t' h
   | ended o w=>simp at h
theorem Reach.bind {Q Q':Array Goroutine->World->Trace->Prop} {sl:Option (Nat×Nat)} (h:Reach P Q gs W sl t) (k:∀ gs' W' sl' t',Q gs' W' t'->Reach P Q' gs' W' sl' t'):Reach P Q' gs W sl t:=by
 obtain ⟨N,gs',W',sl',t',h1,h2⟩:=h;obtain ⟨M,gs2,W2,sl2,t2,h3,h4⟩:=k gs' W' sl' t' h2;exact ⟨N+M,gs2,W2,sl2,t2,by grind [Qjw],h4⟩
theorem Fin0.back {Fs F2:Nat->Prop} {Ws:World} {gs':Array Goroutine} {t':Trace} (h:Fin0 P Sh S F2 W2 gs' W' t') (k:Went Fs Ws F2 W2):Fin0 P Sh S Fs Ws gs' W' t':=by
 obtain ⟨g,F,w,q,h1,h2,h3,h4⟩:=h;exact ⟨g,F,w,q,h1,h2,h3,k.trans h4⟩
theorem Reach.mono {Q Q':Array Goroutine->World->Trace->Prop} {sl:Option (Nat×Nat)} (h:Reach P Q gs W sl t) (k:∀ gs' W' t',Q gs' W' t'->Q' gs' W' t'):Reach P Q' gs W sl t:=by
 obtain ⟨N,gs',W',sl',t',h1,h2⟩:=h;exact ⟨N,gs',W',sl',t',h1,k _ _ _ h2⟩

theorem QBl (h:Wlk (Jm P) S g w):∀ w1,Rel w w1->∀ Sh F gs W sl t q,MI P Sh F w1 gs W t q->gs[0]?=some g->Reach P (fun gs' W' t'=>∃ Sh',Fin0 P Sh' S F W gs' W' t') gs W sl t:=by
 induction h with
 | @stop g w hS =>
  intro w1 hr Sh F gs W sl t q h h0;exact Reach.here ⟨Sh,g,F,w1,q,h0,hS w1 hr,h,Went.refl _ _⟩
 | @step g w nx hrun hv hn ih =>
  intro w1 hr Sh F gs W sl t q h h0;have key:∀ N w1,Rel w w1->∀ gs W sl t q,sumTo gs.size q<=N->MI P Sh F w1 gs W t q->gs[0]?=some g->Reach P (fun gs' W' t'=>∃ Sh',Fin0 P Sh' S F W gs' W' t') gs W sl t:=by
   intro N
   induction N with
   | zero =>
    intro w1 hr gs W sl t q hN h h0;obtain ⟨i,gi,d,sl',hi,hri,hst⟩:=crowd_pick (P:=P) (w:=W) (sl:=sl) (h.awake h0 hrun) ⟨0,g,h0,hrun⟩;by_cases hi0:i=0
    ·subst hi0;have hr2:=hr.trans (YC w1 d);obtain ⟨ops,gs',W',F',h1,h2,h3,h4⟩:=(h.at d).own h0 hrun (hv _ hr2) sl';refine Reach.step (hst.trans h1) ((ih _ hr2 _ (Ef _) Sh F' gs' W' sl' _ q h3 h2).mono fun gs2 W2 t2 ⟨Sh',h5⟩=>⟨Sh',h5.back ((Went.at F W d).trans h4)⟩)
    ·obtain ⟨ops,gs',q',h1,h2,h3,h4⟩:=(h.at d).slip h0 hrun hi hi0 hri sl';omega
   | succ N ihN =>
    intro w1 hr gs W sl t q hN h h0;obtain ⟨i,gi,d,sl',hi,hri,hst⟩:=crowd_pick (P:=P) (w:=W) (sl:=sl) (h.awake h0 hrun) ⟨0,g,h0,hrun⟩;have hr2:=hr.trans (YC w1 d);by_cases hi0:i=0
    ·subst hi0;obtain ⟨ops,gs',W',F',h1,h2,h3,h4⟩:=(h.at d).own h0 hrun (hv _ hr2) sl';refine Reach.step (hst.trans h1) ((ih _ hr2 _ (Ef _) Sh F' gs' W' sl' _ q h3 h2).mono fun gs2 W2 t2 ⟨Sh',h5⟩=>⟨Sh',h5.back ((Went.at F W d).trans h4)⟩)
    ·obtain ⟨ops,gs',q',h1,h2,h3,h4⟩:=(h.at d).slip h0 hrun hi hi0 hri sl';exact Reach.step (hst.trans h1) ((ihN _ hr2 gs' (W.at d) sl' _ q' (by omega) h4 h2).mono fun gs2 W2 t2 ⟨Sh',h5⟩=>⟨Sh',h5.back (Went.at F W d)⟩)
  exact key _ w1 hr gs W sl t q (En _) h h0
 | @phase g w S' hrun hp hn ih =>
  intro w1 hr Sh F gs W sl t q h h0;refine (hp w1 hr Sh F gs W sl t q h h0).bind fun gs' W' sl' t' ⟨Sh',g',F',w',q',h1,h2,h3,h4⟩=>?_;exact (ih g' w' h2 w' (Ef _) Sh' F' gs' W' sl' t' q' h3 h1).mono fun gs2 W2 t2 ⟨Sh2,h5⟩=>⟨Sh2,h5.back h4⟩

/-! ### The return -/
def Qdz (P:Program) (Post:Value->World->Prop) (g:Goroutine) (w:World):Prop :=
 g.status=.running/\∃ v,Post v w/\∀ F W,NoView w->Agr F (fun _=>False) w W->∃ es,stepG P true g W=.ended (.done v) W es/\∀ e∈es,EvOk F (fun _=>False) e
theorem Qoy {Post:Value->World->Prop} {sl:Option (Nat×Nat)} (h:MI P Sh F w gs W t q) (h0:gs[0]?=some g) (hE:∀ w1,Rel w w1->Qdz P Post g w1)
    (slip:∀ (i:Nat) (gi:Goroutine) (d:Nat) (sl':Option (Nat×Nat)),gs[i]?=some gi->gi.status=.running->i≠0->∃ (ops:Trace) (gs':Array Goroutine),runT P (crowd gs (W.at d) sl') i=(.next (crowd gs' (W.at d) sl'),ops) /\
      ∃ n last o W' t',runNT P (n+1) (crowd gs' (W.at d) sl') (t++ops)=(.ended o W',t')/\runN P n (crowd gs' (W.at d) sl')=.next last/\step P last=.ended o W'/\Conc.Good P (fun v W'=>∃ F' w',Post v w'/\NoView w'/\Agr F' (fun _=>False) w' W'/\Went F W F' W') last o W' t') :
    ∃ n last o W' t',runNT P (n+1) (crowd gs W sl) t=(.ended o W',t')/\runN P n (crowd gs W sl)=.next last/\step P last=.ended o W'/\Conc.Good P (fun v W'=>∃ F' w',Post v w'/\NoView w'/\Agr F' (fun _=>False) w' W'/\Went F W F' W') last o W' t':=by
  have hrun:=(hE w (Ef w)).1;obtain ⟨i,gi,d,sl',hi,hri,hst⟩:=crowd_pick (P:=P) (w:=W) (sl:=sl) (h.awake h0 hrun) ⟨0,g,h0,hrun⟩;by_cases hi0:i=0
  · subst hi0;obtain ⟨_,v,hpost,hend⟩:=hE (w.at d) (YC w d);have h':=h.at d;obtain ⟨es,he,hes⟩:=hend F (W.at d) h'.nov h'.agr;have hrunT:=runT_many_ended (P:=P) (sl:=sl') (i:=0) h0 (show stepG P (0 == 0) g (W.at d)=_ from he);have hev:∀ e∈es,EvL Sh (W.at d).heap.size e:=fun e hee=>by
      refine ⟨fun x hx hs=>?_,(Qcr (hes e hee)).1,(Qcr (hes e hee)).2,Qic (hes e hee) h'.bnd⟩;obtain ⟨ad,h1,h2,_⟩:=Qid (hes e hee) hx;exact absurd hs (h.shun _ ad h1 h2)
    have hP':=h'.past.own (fn:=g.frame.fn) (pos:=g.frame.place) hev;have hstep:stepT P (crowd gs W sl)=(.ended (.done v) (W.at d),MemOp.ofEvents 0 g.frame.fn g.frame.place es):=hst.trans hrunT;refine ⟨0,crowd gs W sl,.done v,W.at d,_,by grind [runNT],rfl,by simp [step,hstep],v,rfl,⟨F,w.at d,hpost,h'.nov,h'.agr,Went.at F W d⟩,hP'.clean,hP'.over,⟨fun x hx=>?_,rfl⟩,fun j x hx hj=>?_⟩
    · obtain ⟨j,hj⟩:=List.mem_iff_getElem?.1 hx;rw [List.getElem?_drop] at hj;exact ⟨_,(h.lv.old (1+j) x (by omega) (by grind [crowd])).leaves⟩
    · have hq:=h.lv.old j x (by omega) hx;refine ⟨q j,?_⟩;have e:(t++MemOp.ofEvents 0 g.frame.fn g.frame.place es).deaf j (t++MemOp.ofEvents 0 g.frame.fn g.frame.place es).size=Deaf t j :=
        Deaf_other t (g:=j) (g':=0) (by omega) _ (fun op hop=>by grind [Conc.mem_ofEvents])
      rw [e];exact hq.hears _
  · obtain ⟨ops,gs',h1,n,last,o,W',t',k1,k2,k3,k4⟩:=slip i gi d sl' hi hri hi0;have hs:=hst.trans h1;exact ⟨n+1,last,o,W',t',by grind [runNT_succ_next],by grind [runN_succ_next],k3,k4⟩
theorem QBk {Post:Value->World->Prop}:∀ N gs W sl t q,sumTo gs.size q<=N->MI P Sh F w gs W t q->gs[0]?=some g->(∀ w1,Rel w w1->Qdz P Post g w1) ->
  ∃ n last o W' t',runNT P (n+1) (crowd gs W sl) t=(.ended o W',t')/\runN P n (crowd gs W sl)=.next last/\step P last=.ended o W'/\Conc.Good P (fun v W'=>∃ F' w',Post v w'/\NoView w'/\Agr F' (fun _=>False) w' W'/\Went F W F' W') last o W' t':=by
 intro N
 induction N generalizing w with
 | zero =>
  intro gs W sl t q hN h h0 hE;exact Qoy (q:=q) h h0 hE (fun i gi d sl' hi hri hi0=>by
   obtain ⟨ops,gs',q',h1,h2,h3,h4⟩:=(h.at d).slip h0 (hE w (Ef w)).1 hi hi0 hri sl';omega)
 | succ N ih =>
  intro gs W sl t q hN h h0 hE;refine Qoy (q:=q) h h0 hE (fun i gi d sl' hi hri hi0=>?_);obtain ⟨ops,gs',q',h1,h2,h3,h4⟩:=(h.at d).slip h0 (hE w (Ef w)).1 hi hi0 hri sl';obtain ⟨n,last,o,W',t',k1,k2,k3,k4⟩:=ih gs' (W.at d) sl' (t++ops) q' (by omega) h4 h2 (fun w1 hr=>hE w1 ((YC w d).trans hr));exact ⟨ops,gs',h1,n,last,o,W',t',k1,k2,k3,k4.mono fun v hp=>by
   obtain ⟨F',w',p1,p2,p3,p4⟩:=hp;exact ⟨F',w',p1,p2,p3,(Went.at F W d).trans p4⟩⟩
end
end Go.Gw

end
