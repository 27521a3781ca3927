/- A range over a function, in a goroutine's view: the walk of its body, of the function that is ranged over, of the calls of yield. No condition. -/
import Derived.Test.YthonianbjkhnpaaGreatDoorGwLib25
import Derived.Test.YthonianbjkhnpaaGreatDoorGwVd
import Derived.RangeFuncLeaves
import Derived.RangeFuncRecord
import Derived.AtR
set_option linter.unusedVariables false
set_option linter.unusedSimpArgs false
set_option linter.unusedSectionVars false
set_option linter.unusedSectionVars false
set_option linter.unusedVariables false
namespace Go.Gw
open Go Go.Conc

section
variable {P:Program} {main:Bool} {b:Frame} {a:Act} {k:List Item} {cs:List Frame} {w:World}
theorem QYb:stepG P main (G (b.atR a (.code .skip::k)) cs) w=.go (G (b.atR a k) cs) w:=by rfl
theorem QXv {id:Nat}:stepG P main (G (b.atR a (.inBlock id::k)) cs) w=.go (G (b.atR a k) cs) w:=by rfl
theorem QYa {x y:Code}:stepG P main (G (b.atR a (.code (.seq x y)::k)) cs) w=.go (G (b.atR a (.code x::.code y::k)) cs) w:=by rfl
theorem QXu {c:Operand} {x y:Code} {t:Bool} (h:a.eval c=.bool t):stepG P main (G (b.atR a (.code (.cond c x y)::k)) cs) w=.go (G (b.atR a (.code (if t then x else y)::k)) cs) w:=by
 have h':(b.atR a (.code (.cond c x y)::k)).eval c=.bool t:=by trivial
 grind [G,stepG,stepG.exec,Frame.atR]
theorem QXt {id:Nat} {c:Code}:stepG P main (G (b.atR a (.code (.block id c)::k)) cs) w=.go (G (b.atR a (.code c::.inBlock id::k)) cs) w:=by rfl
theorem QXx {id:Nat} {ops:Array Oper}:stepG P main (G (b.atR a (.code (.region id ops false)::k)) cs) w=.go (G (b.atR a (.inRegion ops (List.range ops.size)::k)) cs) w:=by rfl
theorem QXy {ops:Array Oper}:stepG P main (G (b.atR a (.inRegion ops []::k)) cs) w=.go (G (b.atR a k) cs) w:=by rfl
theorem QXz (hb:b.roundOf=none):stepG P main (G (b.atR a (.code .ret::k)) cs) w=.go (G { b.atR a (.code .ret::k) with mode:=.returning } cs) w:=by simp [G,stepG,stepG.exec,Frame.atR,hb]
theorem QYc {ops:Array Oper} {i:Nat} {rest:List Nat} {o:Oper} (ho:ops[i]?=some o) (hw:Region.wanted o (yielded ops a.tmps)=false) :
  stepG P main (G (b.atR a (.inRegion ops (i::rest)::k)) cs) w=.go (G (b.atR (a.put o.dst undef) (.inRegion ops rest::k)) cs) w:=by
 grind [G,stepG,stepG.exec,Frame.atR,undef,Frame.finish_atR]
theorem QXw {ops:Array Oper} {i:Nat} {rest:List Nat} {o:Oper} (hd:∀ c,o.op≠.defer c) (ho:ops[i]?=some o) (hw:Region.wanted o (yielded ops a.tmps)=true) :
  stepG P main (G (b.atR a (.inRegion ops (i::rest)::k)) cs) w=stepG.apply P true (b.atR a (.inRegion ops (i::rest)::k)) cs none (execOp a.eval o) w:=by
 have he:=Frame.eval_atR b a (.inRegion ops (i::rest)::k);simp only [Frame.atR] at he;simp only [G,stepG,stepG.exec,Frame.atR,ho,hw,Option.map_some,Option.getD_some,if_true,stepG.oper,Frame.oper?,he];simp_all
theorem Qxz {fr:Frame} {m:Sem Next} {v:Value} {w':World} (hk:fr.kind≠.early) (hr:m.run P w=.ok (.value v) w'):stepG.apply P true fr cs none m w=.go (G (fr.finish v) cs) w' (seen P fr.fn (m.events P w #[])):=by
 simp_all [stepG.apply,G,GStep.after,CallKind.early,false]
theorem Qxy {fr:Frame} {m:Sem Next} {w':World} (hk:fr.kind≠.early) (hr:m.run P w=.ok .skip w'):stepG.apply P true fr cs none m w=.go (G (fr.finish undef) cs) w' (seen P fr.fn (m.events P w #[])):=by
 simp_all [stepG.apply,G,GStep.after,CallKind.early,false]
theorem Qxx {fr:Frame} {m:Sem Next} {f:FuncId} {args:Array Value} {w':World} (hk:fr.kind≠.early) (ht:∀ d r s k,fr.todo≠.call d true r s::k) (hr:m.run P w=.ok (.enter f args) w') :
  stepG.apply P true fr cs none m w=.go (G (Frame.enter P f args .normal) (fr::cs)) w' (seen P fr.fn (m.events P w #[])):=by
 simp_all [stepG.apply,G,GStep.after,true,CallKind.wrapped,absurd,CallKind.early,false]
theorem QIg {fr:Frame} {m:Sem Next} {l:Nat} {f:FuncId} {tm:Array Value} {x y:Code} {w':World} (hk:fr.kind≠.early) (hr:m.run P w=.ok (.round l f tm x y) w') :
  stepG.apply P true fr cs none m w=.go (G (Frame.round l f tm x y .normal) (fr::cs)) w' (seen P fr.fn (m.events P w #[])):=by
 simp_all [stepG.apply,G,GStep.after,CallKind.early,false]
end

/-! ### Steps in the view -/
section
variable {P:Program} {main:Bool} {Z:Nat->Prop}
theorem Qfw {α:Type} {m:Sem α} {g g':Goroutine} {w w':World} {r:α} {fn:FuncId} (ht:Zn P m w) (hr:m.run P w=.ok r w')
  (hg:∀ W W',m.run P W=.ok r W'->stepG P main g W=.go g' W' (seen P fn (m.events P W #[]))):Qad P main Z g w g' w':=by
 intro hv;have hT:∀ w,m.runT P w #[]=(m.run P w,m.events P w #[]):=fun w=>Sem.runT_eq P _ w #[]
 have h0:=hT w;rw [hr] at h0;obtain ⟨_,_,_,_,_,hv',_,_⟩:=ht (Agr.self w) hv h0;refine ⟨hv',fun F W hA=>?_⟩;obtain ⟨F',W',us,h1,h2,_,h4,h5⟩:=ht hA hv h0
 grind [mem_seen,Prod.mk.inj]
end

/-! ### A piece of code in a frame that may be a round -/
section
variable {P:Program}
def AfterR (J:Jd P) (Stop:Goroutine->World->Prop) (b:Frame) (k:List Item) (cs:List Frame):Exit->Act->World->Prop
 | .normal,a,w=>Wlk J Stop (G (b.atR a k) cs) w
 | .exit id,a,w=>∃ k',exitTo id k=some k'/\Wlk J Stop (G (b.atR a k') cs) w
 | .ret,a,w=>∀ k',Wlk J Stop (G (b.atR a (.code .ret::k')) cs) w
 | _,_,_=>False
def wpR (J:Jd P) (R:Option Nat) (c:Code) (Q:Exit->Act->World->Prop) (a:Act) (w:World):Prop :=
 ∀ (b:Frame) (k:List Item) (cs:List Frame) (Stop:Goroutine->World->Prop),b.kind≠.early->b.roundOf=R ->
  (∀ e a' w',Q e a' w'->AfterR J Stop b k cs e a' w')->Wlk J Stop (G (b.atR a (.code c::k)) cs) w
def Qhb (J:Jd P) (ops:Array Oper) (todo:List Nat) (Q:Exit->Act->World->Prop) (a:Act) (w:World):Prop :=
 ∀ (b:Frame) (k:List Item) (cs:List Frame) (Stop:Goroutine->World->Prop),b.kind≠.early ->
  (∀ e a' w',Q e a' w'->AfterR J Stop b k cs e a' w')->Wlk J Stop (G (b.atR a (.inRegion ops todo::k)) cs) w
def RoundJ (J:Jd P) (l:Nat) (f:FuncId) (tm:Array Value) (x y:Code) (w:World) (Φ:Value->World->Prop):Prop :=
 ∀ (c:Frame) (cs:List Frame) (Stop:Goroutine->World->Prop),(∀ v w',Φ v w'->Wlk J Stop (G (c.finish v) cs) w')->Wlk J Stop (G (Frame.round l f tm x y .normal) (c::cs)) w
def upR (J:Jd P) (o:Oper) (a:Act) (K:Act->World->Prop):Result Next->Prop
 | .ok (.value v) w'=>K (a.put o.dst v) w'
 | .ok .skip w'=>K (a.put o.dst undef) w'
 | .ok (.enter f args) w'=>CallsJ J f args w' (fun v w''=>K (a.put o.dst v) w'')
 | .ok (.round l f tm x y) w'=>RoundJ J l f tm x y w' (fun v w''=>K (a.put o.dst v) w'')
 | _=>False
def opR (J:Jd P) (ops:Array Oper) (i:Nat) (K:Act->World->Prop) (a:Act) (w:World):Prop :=
 match ops[i]? with
 | none=>False
 | some o=>(∀ c,o.op≠.defer c)/\if Region.wanted o (yielded ops a.tmps) then Fr P (execOp a.eval o) w/\((∃ v,(∀ w1,Rel w w1->(execOp a.eval o).run P w1=.ok (.value v) w1)/\K (a.put o.dst v) w)\/∀ w1,Rel w w1->upR J o a K ((execOp a.eval o).run P w1)) else K (a.put o.dst undef) w

variable {J:Jd P} {R:Option Nat} {Q:Exit->Act->World->Prop} {a:Act} {w:World}
theorem RoundJ.mono {l:Nat} {f:FuncId} {tm:Array Value} {x y:Code} {Φ Ψ:Value->World->Prop} (h:RoundJ J l f tm x y w Φ) (hm:∀ v w',Φ v w'->Ψ v w'):RoundJ J l f tm x y w Ψ:=fun c cs Stop hk=>h c cs Stop fun v w' hv=>hk v w' (hm v w' hv)
theorem AfterR.push {Stop:Goroutine->World->Prop} {b:Frame} {x:Item} {k:List Item} {cs:List Frame} {e:Exit} (hx:x.plain=true) (he:e≠.normal) (h:AfterR J Stop b k cs e a w):AfterR J Stop b (x::k) cs e a w:=by
 cases e with
 | normal=>trivial
 | exit id=>obtain ⟨k',hk,hg⟩:=h;exact ⟨k',by cases x<;>simp_all [exitTo,Item.plain],hg⟩
 | ret=>exact h
 | goto l=>exact h
 | panic ch=>exact h
 | outgrown=>exact h
theorem QGu {c:Code} {Q':Exit->Act->World->Prop} (h:wpR J R c Q a w) (hq:∀ e a w,Q e a w->Q' e a w):wpR J R c Q' a w :=
 fun b k cs Stop hb hR hc=>h b k cs Stop hb hR fun e a' w' q=>hc e a' w' (hq e a' w' q)
theorem Q0k (h:Q .normal a w):wpR J R .skip Q a w:=fun b k cs Stop _ _ hc=>.ctl rfl (fun _=>QYb) (hc _ _ _ h)
theorem Q0i (h:Q .ret a w):wpR J R .ret Q a w:=fun b k cs Stop _ _ hc=>hc _ _ _ h k
theorem Q0j {x y:Code} (h:wpR J R x (Exit.then (fun a' w'=>wpR J R y Q a' w') Q) a w):wpR J R (.seq x y) Q a w:=by
 intro b k cs Stop hb hR hc;refine .ctl rfl (fun _=>QYa) (h b (.code y::k) cs Stop hb hR fun e a' w' q=>?_);cases e with
 | normal=>exact q b k cs Stop hb hR hc
 | exit id=>exact (hc _ _ _ q).push rfl (by simp)
 | ret=>exact (hc _ _ _ q).push (x:=.code y) rfl (by simp)
 | goto l=>exact hc _ _ _ q
 | panic ch=>exact hc _ _ _ q
 | outgrown=>exact hc _ _ _ q
theorem Q0h {c:Operand} {x y:Code} {t:Bool} (hc:a.eval c=.bool t) (h1:t=true->wpR J R x Q a w) (h2:t=false->wpR J R y Q a w):wpR J R (.cond c x y) Q a w:=by
 intro b k cs Stop hb hR hq;refine .ctl rfl (fun _=>QXu hc) ?_;cases t
 ·exact h2 rfl b k cs Stop hb hR hq
 ·exact h1 rfl b k cs Stop hb hR hq
theorem Q0g {id:Nat} {c:Code} (h:wpR J R c (Exit.inBlock id Q) a w):wpR J R (.block id c) Q a w:=by
 intro b k cs Stop hb hR hc;refine .ctl rfl (fun _=>QXt) (h b (.inBlock id::k) cs Stop hb hR fun e a' w' q=>?_);cases e with
 | normal=>exact .ctl rfl (fun _=>QXv) (hc _ _ _ q)
 | exit id' =>
  by_cases hid:id'=id
  ·simp only [Exit.inBlock,hid,if_true] at q;exact ⟨k,by simp [exitTo,hid],hc _ _ _ q⟩
  ·simp only [Exit.inBlock,hid,if_false] at q;obtain ⟨k',hk',hg⟩:=hc _ _ _ q;have:(id == id')=false:=by grind
   exact ⟨k',by grind [exitTo],hg⟩
 | ret=>exact fun k'=>hc _ _ _ q k'
 | goto l=>exact hc _ _ _ q
 | panic ch=>exact hc _ _ _ q
 | outgrown=>exact hc _ _ _ q
theorem QDd {ops:Array Oper} (h:Q .normal a w):Qhb J ops [] Q a w:=fun b k cs Stop _ hc=>.ctl rfl (fun _=>QXy) (hc _ _ _ h)
theorem QTo {ops:Array Oper} {i:Nat} {rest:List Nat} {K:Act->World->Prop} (h:opR J ops i K a w) {b:Frame} {k:List Item} {cs:List Frame} {Stop:Goroutine->World->Prop} (hb:b.kind≠.early)
    (hK:∀ a' w',K a' w'->Wlk J Stop (G (b.atR a' (.inRegion ops rest::k)) cs) w'):Wlk J Stop (G (b.atR a (.inRegion ops (i::rest)::k)) cs) w:=by
  unfold opR at h;split at h
  · exact h.elim
  · rename_i o ho;obtain ⟨hd,h⟩:=h;have hfin:∀ v,(b.atR a (.inRegion ops (i::rest)::k)).finish v=b.atR (a.put o.dst v) (.inRegion ops rest::k):=fun v=>by rw [Frame.finish_atR,ho];rfl
    have hk:(b.atR a (.inRegion ops (i::rest)::k)).kind≠.early:=hb;split at h
    · rename_i hw;obtain ⟨htm,h⟩:=h;refine .by rfl fun w1 r=>?_
      have vst : ∀ {nx : Next} {w'} {g'}, (execOp a.eval o).run P w1 = .ok nx w' -> (∀ W W', (execOp a.eval o).run P W = .ok nx W' -> stepG.apply P true (b.atR a (.inRegion ops (i :: rest) :: k)) cs none (execOp a.eval o) W = .go g' W' (seen P b.fn ((execOp a.eval o).events P W #[]))) ->
          Qad P J.main J.Z (G (b.atR a (.inRegion ops (i::rest)::k)) cs) w1 g' w':=fun hr hg=>Qfw (fn:=b.fn) (htm w1 r) hr fun W W' hW=>(QXw hd ho hw).trans (hg W W' hW)
      rcases h with ⟨v,h1,h2⟩ | h
      · exact ⟨_,w1,vst (h1 w1 r) (fun W W' hW=>Qxz hk hW),by rw [hfin];exact (hK _ _ h2).rely r⟩
      have h1:=h w1 r;generalize hr:(execOp a.eval o).run P w1=x at h1
      match x,h1,hr with
      | .ok (.value v) w',h1,hr=>exact ⟨_,w',vst hr (fun W W' hW=>Qxz hk hW),by rw [hfin];exact hK _ _ h1⟩
      | .ok .skip w',h1,hr=>exact ⟨_,w',vst hr (fun W W' hW=>Qxy hk hW),by rw [hfin];exact hK _ _ h1⟩
      | .ok (.enter f args) w',h1,hr =>
        refine ⟨_,w',vst hr (fun W W' hW=>Qxx hk (by intro _ _ _ _ e;cases e) hW),h1 _ _ _ fun v w'' hv=>?_⟩;simp_all
      | .ok (.round l f tm x y) w',h1,hr =>
        refine ⟨_,w',vst hr (fun W W' hW=>QIg hk hW),h1 _ _ _ fun v w'' hv=>?_⟩;simp_all
    · rename_i hw;exact .ctl rfl (fun _=>QYc ho (by grind)) (hK _ _ h)
theorem QDc {ops:Array Oper} {i:Nat} {rest:List Nat} (h:opR J ops i (fun a' w'=>Qhb J ops rest Q a' w') a w):Qhb J ops (i::rest) Q a w :=
 fun b k cs Stop hb hc=>QTo h hb fun a' w' h'=>h' b k cs Stop hb hc
theorem QGv {id:Nat} {ops:Array Oper} (h:Qhb J ops (List.range ops.size) Q a w):wpR J R (.region id ops false) Q a w :=
 fun b k cs Stop hb _ hc=>.ctl rfl (fun _=>QXx) (h b k cs Stop hb hc)
end

def Yz (n:Nat) (ρ:Env) (ds:List Deferred):Act:=⟨(act n ρ).tmps,ds⟩
theorem Qfz (n:Nat) (ρ:Env) (ds:List Deferred) (d:Option Nat) (v:Value):(Yz n ρ ds).put d v=Yz n (Xv ρ d v) ds:=by
 have h:=JS n ρ d v;unfold Yz;rw [<-h];cases d<;>rfl
theorem Qqy (n:Nat) (ρ:Env) (ds:List Deferred):(Yz n ρ ds).eval=Qr n ρ:=by rw [<-Qbg];rfl
structure PostD where
 norm:List Deferred->Env->World->Prop
 ex:Nat->List Deferred->Env->World->Prop
 ret:List Deferred->Env->World->Prop
def PostD.Q (n:Nat) (q:PostD):Exit->Act->World->Prop
 | .normal,a,w=>∃ ds ρ,a=Yz n ρ ds/\q.norm ds ρ w
 | .exit i,a,w=>∃ ds ρ,a=Yz n ρ ds/\q.ex i ds ρ w
 | .ret,a,w=>∃ ds ρ,a=Yz n ρ ds/\q.ret ds ρ w
 | _,_,_=>False
def WD (P:Program) [JD P] (R:Option Nat) (n:Nat) (c:Code) (q:PostD) (ds:List Deferred) (ρ:Env) (w:World):Prop:=wpR (JD.j (P:=P)) R c (q.Q n) (Yz n ρ ds) w

section
variable {P:Program} [JD P] {R:Option Nat} {n:Nat} {q:PostD} {ds:List Deferred} {ρ:Env} {w:World}
theorem QHv (h:q.norm ds ρ w):WD P R n .skip q ds ρ w:=Q0k ⟨ds,ρ,rfl,h⟩
theorem Qqx (h:q.ret ds ρ w):WD P R n .ret q ds ρ w:=Q0i ⟨ds,ρ,rfl,h⟩
theorem Qcq {x y:Code} (h:∀ K:List Deferred->Env->World->Prop,(∀ ds ρ w,WD P R n y q ds ρ w->K ds ρ w)->WD P R n x ⟨K,q.ex,q.ret⟩ ds ρ w):WD P R n (.seq x y) q ds ρ w:=by
 refine Q0j (QGu (h (fun ds ρ w=>WD P R n y q ds ρ w) fun _ _ _ h=>h) fun e a w he=>?_);cases e<;>first
  | exact he
  | (obtain ⟨ds,ρ,ha,hq⟩:=he;subst ha;exact hq)
theorem QHt {c:Operand} {x y:Code} {b:Bool} (hc:Qr n ρ c=.bool b) (ht:b=true->WD P R n x q ds ρ w) (hf:b=false->WD P R n y q ds ρ w):WD P R n (.cond c x y) q ds ρ w :=
 Q0h (by rw [Qqy];exact hc) ht hf
theorem Qxm {i:Nat} {c:Code} (h:WD P R n c ⟨q.norm,fun j=>bif Nat.beq j i then q.norm else q.ex j,q.ret⟩ ds ρ w):WD P R n (.block i c) q ds ρ w :=
 Q0g (QGu h fun e a w he=>by
  cases e with
  | exit j =>
   obtain ⟨ds,ρ,ha,hq⟩:=he;subst ha;simp only [Exit.inBlock];by_cases hj:j=i
   ·subst hj;simp only [QBq,cond_true] at hq;rw [if_pos rfl];exact ⟨ds,ρ,rfl,hq⟩
   ·rw [if_neg hj];simp only [Qjq hj,cond_false] at hq;exact ⟨ds,ρ,rfl,hq⟩
  | _=>exact he)

/-! ### Operations, calls of yield among them -/
def Qyv (P:Program) [JD P] (K:Value->World->Prop):Result Next->Prop
 | .ok (.value v) w'=>K v w'
 | .ok .skip w'=>K undef w'
 | .ok (.enter f args) w'=>CallsJ (JD.j (P:=P)) f args w' K
 | .ok (.round l f tm x y) w'=>RoundJ (JD.j (P:=P)) l f tm x y w' K
 | _=>False
def Qhz (P:Program) [JD P] (o:Oper) (n:Nat) (ρ:Env) (w:World) (K:Value->World->Prop):Prop :=
 Fr P (execOp (Qr n ρ) o) w/\((∃ v,(∀ w1,Rel w w1->(execOp (Qr n ρ) o).run P w1=.ok (.value v) w1)/\K v w)\/∀ w1,Rel w w1->Qyv P K ((execOp (Qr n ρ) o).run P w1))
theorem effR.toI {K:Value->World->Prop} {r:Result Next} (h:effR P K r):Qyv P K r:=by
 cases r with
 | ok x w'=>cases x<;>first | exact h | exact h.elim
 | halt x w'=>exact h
theorem Eff.toI {o:Oper} {K:Value->World->Prop} (h:Eff P o n ρ w K):Qhz P o n ρ w K:=⟨h.1,h.2.imp id fun h w1 r=>(h w1 r).toI⟩
theorem Yl.toI {o:Oper} {v:Value} {K:Value->World->Prop} (h:Yl P n ρ o w v) (hK:K v w):Qhz P o n ρ w K:=⟨h.1,.inl ⟨v,h.2,hK⟩⟩
def StpI (P:Program) [JD P] (n:Nat) (ops:Array Oper) (o:Oper) (ρ:Env) (w:World) (K:Env->World->Prop):Prop :=
 if XU ops o n ρ then Qhz P o n ρ w (fun v w'=>K (Xv ρ o.dst v) w') else K (Xv ρ o.dst undef) w
theorem Stp.toI {ops:Array Oper} {o:Oper} {K:Env->World->Prop} (h:Stp P n ops o ρ w K):StpI P n ops o ρ w K:=by
 unfold Stp at h;unfold StpI;split
 ·rename_i hw;rw [if_pos hw] at h;exact h.toI
 simp_all
def Qul (ops:List Oper):Bool:=ops.all fun o=>match o.op with | .defer _=>false | _=>true
theorem QCm {ops:List Oper} (h:Qul ops=true) {o:Oper} (ho:o∈ops):∀ c,o.op≠.defer c:=by
 intro c hc;have:=List.all_eq_true.1 h o ho;simp_all
theorem StpI.toOp {ops:Array Oper} {i:Nat} {o:Oper} {K:Env->World->Prop} {K':Act->World->Prop} (hi:ops[i]?=some o) (hd:∀ c,o.op≠.defer c) (h:StpI P n ops o ρ w K)
  (hK:∀ ρ w,K ρ w->K' (Yz n ρ ds) w):opR (JD.j (P:=P)) ops i K' (Yz n ρ ds) w:=by
 unfold StpI XU at h;simp only [opR,hi];refine ⟨hd,?_⟩;show if Region.wanted o (yielded ops (act n ρ).tmps)=true then _ else _
 split
 ·rename_i hw;rw [if_pos hw] at h;rw [Qqy];refine ⟨h.1,h.2.imp (fun ⟨v,h1,h2⟩=>⟨v,h1,by grind [Qfz]⟩) (fun h w1 r=>?_)⟩;have h1:=h w1 r;generalize (execOp (Qr n ρ) o).run P w1=x at h1
  match x,h1 with
  | .ok (.value v) w',h1=>show K' ((Yz n ρ ds).put o.dst v) w';rw [Qfz];exact hK _ _ h1
  | .ok .skip w',h1=>show K' ((Yz n ρ ds).put o.dst undef) w';rw [Qfz];exact hK _ _ h1
  | .ok (.enter f args) w',h1=>exact CallsJ.mono h1 fun v w'' hv=>by grind [Qfz]
  | .ok (.round l f tm x y) w',h1=>exact RoundJ.mono h1 fun v w'' hv=>by grind [Qfz]
 simp_all [if_neg,Qfz]
theorem T0.toOpsR {ops:List Oper} {K:Env->World->Prop} {Q:Exit->Act->World->Prop} (hd:∀ o∈ops,∀ c,o.op≠.defer c) (hK:∀ ρ w,K ρ w->Q .normal (Yz n ρ ds) w) :
  ∀ (m k:Nat) (ρ:Env) (w:World),k+m=ops.length->T0 P n ops.toArray K (ops.drop k) ρ w->Qhb (JD.j (P:=P)) ops.toArray (List.range' k m) Q (Yz n ρ ds) w
 | 0,k,ρ,w,hk,h=>by
  rw [List.drop_eq_nil_of_le (by omega)] at h;exact QDd (hK ρ w h)
 | m+1,k,ρ,w,hk,h=>by
  have hlt:k < ops.length:=by omega
  rw [List.drop_eq_getElem_cons hlt] at h;rw [List.range'_succ];exact QDc (StpI.toOp (by simp [hlt]) (hd _ (List.getElem_mem hlt)) (Stp.toI h) fun ρ w h'=>T0.toOpsR hd hK m (k+1) ρ w (by omega) h')
theorem Qbv {id:Nat} {ops:List Oper} (hd:Qul ops=true) (h:T0 P n ops.toArray (q.norm ds) ops ρ w):WD P R n (.region id ops.toArray false) q ds ρ w :=
 QGv (by
  have:=T0.toOpsR (Q:=q.Q n) (ds:=ds) (fun _ ho=>QCm hd ho) (fun ρ _ h'=>⟨ds,ρ,rfl,h'⟩) ops.length 0 ρ w (by simp) h
  grind [List.range_eq_range'])

/-! ### A region that draws its order, told whole -/
section
variable {ops:List Oper} {K:Env->World->Prop} {fuel:Nat} {listed:Array Bool} {i j:Nat} {o o2:Oper} {v u:Value}
end

/-! ### The record of a loop -/
def RecAt (w:World) (l:Nat) (r:Loop):Prop:=w.heap[l]?=some (.loop r)
theorem RecAt.lt {l:Nat} {r:Loop} (h:RecAt w l r):l < w.heap.size:=Js h
theorem RecAt.chg {w':World} {l:Nat} {r:Loop} {H:List Value} (h:RecAt w l r) (c:Chg H w w') (hA:Avoids H l):RecAt w' l r:=(c.block l h.lt hA).trans h
theorem RecAt.ext {w':World} {l:Nat} {r:Loop} (h:RecAt w l r) (c:Ext w w'):RecAt w' l r:=h.chg c (Avoids.nil _)
theorem RecAt.whole {l:Nat} {r:Loop} (h:RecAt w l r):Whole w l (.loop r):=⟨h,(by simp),(by intro e;cases e)⟩
def DefAt (w:World) (l:Nat):Prop:=w.heap[l]?=some (.deferred (some []))
theorem DefAt.lt {l:Nat} (h:DefAt w l):l < w.heap.size:=Js h
theorem DefAt.chg {w':World} {l:Nat} {H:List Value} (h:DefAt w l) (c:Chg H w w') (hA:Avoids H l):DefAt w' l:=(c.block l h.lt hA).trans h
theorem DefAt.ext {w':World} {l:Nat} (h:DefAt w l) (c:Ext w w'):DefAt w' l:=h.chg c (Avoids.nil _)
theorem Qio {l:Nat} {o:Obj}:Chg [.pointer (some ⟨l,0,none⟩)] w (w.putObj l o):=by
 refine ⟨rfl,rfl,rfl,by simp,fun b hb hA=>?_⟩;have hne:b≠l:=fun e=>hA _ (List.mem_singleton.2 rfl) (by simp [Qq,e])
 exact World.putObj_heap_other hne
theorem RecAt.put {l:Nat} {r r':Loop} (h:RecAt w l r):RecAt (w.putObj l (.loop r')) l r':=World.putObj_heap_same h.lt
end

/-! ### What the steps of a loop do to memory -/
section
variable {P:Program} {W:World} {ev:Array Event} {l:Nat} {r:Loop}
theorem Qpk (h:W.heap[l]?=some (.loop r)):(Instr.getLoop l).runT P W ev=(.ok r W,ev.push ⟨.obj l,false,false⟩):=by
 unfold Instr.getLoop;refine (Xo (show (getObj l).runT P W ev=(.ok (.loop r) W,ev.push ⟨.obj l,false,false⟩) from QEd h (by simp) rfl)).trans ?_;rfl
theorem Qvl {o:Obj} (ho:o.isChan=false) (h:W.heap[l]?=some (.loop r)):(setObj l o).runT P W ev=(.ok () { W with heap:=W.heap.setIfInBounds l o },ev.push ⟨.obj l,true,false⟩):=by
 grind [QEg]
theorem QMf {w:World} {args:Array Value} (h:RecAt w l r) (hs:args.size=r.params.size):Zn P (Instr.yield l args) w :=
 Qsi h.whole fun W ev hW=>by
  unfold Instr.yield;refine (Xo (Qpk hW)).trans ?_;rw [if_neg (by simp [hs])];rfl
theorem QMa {w:World} (h:RecAt w l r) (hr:r.state=.ready):Zn P (Instr.beginRound l) w :=
 Qiz (o':=.loop { r with state:=.busy }) h.whole (by simp) fun W ev hW=>by
  unfold Instr.beginRound;refine (Xo (Qpk hW)).trans ?_;refine (Xo (Qvl rfl hW)).trans ?_;rw [hr];rfl
theorem Qzo {w:World} (j:Option Code) (h:RecAt w l r):Zn P (Instr.endRound l j) w :=
 Qiz (o':=.loop { r with state:=if j.isNone then .ready else .done,pending:=j }) h.whole (by simp) fun W ev hW=>by
  unfold Instr.endRound;refine (Xo (Qpk hW)).trans ?_;exact (Xo (Qvl rfl hW)).trans rfl
theorem QMb {w:World} (h:RecAt w l r) (hb:r.state≠.busy):Zn P (Instr.endLoop l) w :=
 Qiz (o':=.loop { r with state:=.exhausted }) h.whole (by simp) fun W ev hW=>by
  unfold Instr.endLoop;refine (Xo (Qpk hW)).trans ?_;rw [if_neg (by grind)];exact (Xo (Qvl rfl hW)).trans rfl
theorem QMe {w:World} {D:Nat} (h:DefAt w D):Zn P (Instr.takeDeferred D) w :=
 Qiz (o':=.deferred none) (v:=[]) ⟨h,(by simp),(by intro e;cases e)⟩ (by simp) fun W ev hW=>by
  unfold Instr.takeDeferred;refine (Xo (show (getObj D).runT P W ev=(.ok (.deferred (some [])) W,ev.push ⟨.obj D,false,false⟩) from QEd hW (by simp) rfl)).trans ?_;exact (Xo (show (setObj D (.deferred none)).runT P W _=(.ok () { W with heap:=W.heap.setIfInBounds D (.deferred none) },_) from QEg hW (by simp) rfl)).trans rfl
theorem tame_enterLoop {fn:FuncId} {tm:Array Value} {ps:Array Tmp} {x y:Code}:Tame P (Instr.enterLoop fn tm ps x y none):=by
 unfold Instr.enterLoop;exact .bnd (Qld _ rfl) fun r=>.bnd (.pure _) fun x=>by
  obtain ⟨a,b⟩:=x;exact .bnd (Qld _ rfl) fun _=>.pure _
end

/-! ### The statement -/
section
variable {P:Program} [JD P] {n:Nat} {ds:List Deferred} {ρ:Env} {w:World}
def Qtq (q:PostD) (ds:List Deferred) (ρ:Env) (l:Nat) (w:World):Prop :=
 ∃ r,RecAt w l r/\r.state≠.busy/\match r.pending with
  | none=>∀ w',Chg [.pointer (some ⟨l,0,none⟩)] w w'->q.norm ds ρ w'
  | some .ret=>∀ w',Chg [.pointer (some ⟨l,0,none⟩)] w w'->q.ret ds ρ w'
  | _=>False
theorem QHu {g:Operand} {f nf:Nat} {fn:Func} {cf:Code} {caps:List Value} {ps:Array Tmp} {assign body:Code} {q:PostD} (hg:Qr n ρ g=.func (.func f) #[] caps.toArray)
    (hf : P.funcs[f]? = some fn) (hname : (fn.name == "runtime.NumGoroutine") = false) (hb : fn.body = some cf) (hn : fn.ntmps = nf) (hl : Nat.ble (caps.length + 1) nf = true) (hres : fn.results = #[])
    (h:∀ (fid:FuncId) (w1:World) (l D:Nat),w.heap.size<=D->l=D+1->Ext w w1->RecAt w1 l ⟨.ready,none,fid,(act n ρ).tmps,ps,assign,body,D⟩->DefAt w1 D ->
      WC P nf cf ⟨fun _ w'=>Qtq q ({ target:=.collected D,args:=#[] }::ds) ρ l w',fun _ _ _=>False,fun _ w'=>Qtq q ({ target:=.collected D,args:=#[] }::ds) ρ l w'⟩ (fun i=>(.func (.yield l) #[] #[]::caps).getD i undef) w1) :
    WD P none n (.rangeFunc g ps assign body) q ds ρ w:=by
  intro b k cs Stop hk hR hc;refine .by rfl fun w0 r0=>?_
  obtain ⟨W1,hW1⟩:∃ W1,(w0.alloc (.deferred (some []))).alloc (.loop ⟨.ready,none,b.fn,(act n ρ).tmps,ps,assign,body,w0.heap.size⟩)=W1:=⟨_,rfl⟩;have hext:Ext w0 W1:=by rw [<-hW1];exact Chg.trans (Ext.alloc w0 _) (Ext.alloc _ _)
  have hL1:RecAt W1 (w0.heap.size+1) ⟨.ready,none,b.fn,(act n ρ).tmps,ps,assign,body,w0.heap.size⟩:=by
    rw [<-hW1];have:=World.alloc_heap_new (w0.alloc (.deferred (some []))) (.loop ⟨.ready,none,b.fn,(act n ρ).tmps,ps,assign,body,w0.heap.size⟩)
    grind [World.size_alloc,RecAt]
  have hK1:DefAt W1 w0.heap.size:=by
    rw [<-hW1];show ((w0.heap.push _).push _)[w0.heap.size]?=_
    grind
  have hrun:=run_enterLoop_outer (P:=P) (w:=w0) b.fn (act n ρ).tmps ps assign body;rw [hW1] at hrun;have hbR:b.atR (Yz n ρ ds) (.code (.rangeFunc g ps assign body)::k)={ fn:=b.fn,tmps:=(act n ρ).tmps,todo:=.code (.rangeFunc g ps assign body)::k,defers:=ds,mode:=.run,kind:=b.kind,roundOf:=none }:=by simp [Frame.atR,Yz,hR]
  refine ⟨G (Frame.enter P f ((Value.func (.yield (w0.heap.size+1)) #[] #[]::caps).toArray) .normal) (b.atR (Yz n ρ ({ target:=.collected w0.heap.size,args:=#[] }::ds)) (.inRangeFunc (w0.heap.size+1)::k)::cs),W1,
    Qfw (fn:=b.fn) tame_enterLoop.fr0 hrun fun W W' hW=>?_,?_⟩
  · -- the step itself
    have hT:∀ w,(Instr.enterLoop b.fn (act n ρ).tmps ps assign body none).runT P w #[]=((Instr.enterLoop b.fn (act n ρ).tmps ps assign body none).run P w,(Instr.enterLoop b.fn (act n ρ).tmps ps assign body none).events P w #[]):=fun w=>Sem.runT_eq P _ w #[]
    have hE:(Frame.eval { fn:=b.fn,tmps:=(act n ρ).tmps,todo:=.inRangeFunc (w0.heap.size+1)::k,defers:={ target:=.collected w0.heap.size,args:=#[] }::ds,mode:=.run,kind:=b.kind,roundOf:=none })=Qr n ρ:=by
      rw [<-Qqy n ρ ds,<-Frame.eval_atR b (Yz n ρ ds) []];rfl
    have hk':(b.kind == CallKind.early)=false:=by grind
    have hcall:=MuLone.run_callFunc_enter (P:=P) (w:=W') (args:=(Value.func (.yield (w0.heap.size+1)) #[] #[]::caps).toArray) hf hname hb;rw [hbR];simp only [G,stepG,stepG.exec,hT,hW,List.cons_append,List.nil_append];have hm:∀ (m:Sem Next),m=(resolve (Qr n ρ) { callee:=.value g,args:=#[.const (.func (.yield (w0.heap.size+1)) #[] #[])],argTypes:=#[] } 0 >>= fun d=>invoke d.target d.args)->m.runT P W' #[]=(.ok (.enter f ((Value.func (.yield (w0.heap.size+1)) #[] #[]::caps).toArray)) W',#[]):=fun m hm=>by
      subst hm;refine Eq.trans ?_ (Qpi (P:=P) (es:=#[]) (w:=W') (args:=(Value.func (.yield (w0.heap.size+1)) #[] #[]::caps).toArray) hf hname hb)
      grind [resolve,Deferred.ofValue,invoke,Qr]
    rw [hE];generalize hmm:(resolve (Qr n ρ) { callee:=.value g,args:=#[.const (.func (.yield (w0.heap.size+1)) #[] #[])],argTypes:=#[] } 0 >>= fun d=>invoke d.target d.args)=m;have hm1:=hm m hmm.symm;rw [Sem.runT_eq] at hm1;have h1:=(Prod.mk.inj hm1).1;have h2:=(Prod.mk.inj hm1).2;rw [Qxx (f:=f) (by omega) (by simp) h1,h2];simp [GStep.after,seen,G,Frame.atR,Yz,hR]
  · -- the function that is ranged over
    have hw:=h b.fn W1 (w0.heap.size+1) w0.heap.size r0.size rfl (r0.ext.trans hext) hL1 hK1;have hcall:CallsJ (JD.j (P:=P)) f ((Value.func (.yield (w0.heap.size+1)) #[] #[]::caps).toArray) W1 (fun _ w'=>Qtq q ({ target:=.collected w0.heap.size,args:=#[] }::ds) ρ (w0.heap.size+1) w'):=by
      refine Qrq hf hb ?_;rw [hn,Qgh _ nf (by simp_all)];refine Qem hw fun e a w he=>?_;cases e<;>first
        | exact he.elim
        | (obtain ⟨_,_,hf⟩:=he;exact hf.elim)
        | (obtain ⟨ρ', rfl, hq⟩ := he
           exact ⟨rfl,Qle (rs:=[]) (vs:=[]) (w:=w) (by rw [hres]) rfl trivial,_,fun w1 r=>Qko (rs:=[]) (vs:=[]) (by rw [hres]) rfl r trivial,hq⟩)
    refine hcall _ cs Stop fun v w' ⟨rr,hr,hst,hm⟩=>?_;have hfin:(b.atR (Yz n ρ ({ target:=.collected w0.heap.size,args:=#[] }::ds)) (.inRangeFunc (w0.heap.size+1)::k)).finish v=b.atR (Yz n ρ ({ target:=.collected w0.heap.size,args:=#[] }::ds)) (.endRangeFunc (w0.heap.size+1)::k):=rfl;rw [hfin];refine .by rfl fun w2 r2=>?_
    have hr2:RecAt w2 (w0.heap.size+1) rr:=hr.ext r2.ext
    have hstep : ∀ (j : Option Code) (W W' : World), (Instr.endLoop (w0.heap.size + 1)).run P W = .ok j W' -> stepG P (JD.j (P := P)).main (G (b.atR (Yz n ρ ({ target := .collected w0.heap.size, args := #[] } :: ds)) (.endRangeFunc (w0.heap.size + 1) :: k)) cs) W =
        .go (G (b.atR (Yz n ρ ({ target:=.collected w0.heap.size,args:=#[] }::ds)) ((j.map Item.code).toList++k)) cs) W' (seen P b.fn ((Instr.endLoop (w0.heap.size+1)).events P W #[])):=fun j W W' hW=>by
      grind [G,stepG,stepG.exec,Frame.atR,GStep.after,Sem.runT_eq,Instr.endLoop]
    refine ⟨_,_,Qfw (fn:=b.fn) (QMb hr2 hst) (run_endLoop hr2 hst) (hstep _),?_⟩;have hch:Chg [.pointer (some ⟨w0.heap.size+1,0,none⟩)] w' (w2.putObj (w0.heap.size+1) (.loop { rr with state:=.exhausted })):=(r2.ext.mono (fun _ h=>by cases h)).trans Qio;generalize (w2.putObj (w0.heap.size+1) (.loop { rr with state:=.exhausted }))=w3 at hch ⊢;cases hp:rr.pending with
    | none=>rw [hp] at hm;exact hc .normal _ _ ⟨_,ρ,rfl,hm _ hch⟩
    | some cc =>
      rw [hp] at hm;cases cc with
      | ret =>
        have h3:∀ k',Wlk (JD.j (P:=P)) Stop (G (b.atR (Yz n ρ ({ target:=.collected w0.heap.size,args:=#[] }::ds)) (.code .ret::k')) cs) _:=hc .ret _ _ ⟨_,ρ,rfl,hm _ hch⟩;exact h3 k
      | _=>grind

theorem QJn {d:Option Nat} {t:TypeId} {pp:String} {af:Array Edge} {gu:Option (Nat×Bool)} {y x:Operand} {aT:Array TypeId} {l m p D:Nat} {fid:FuncId} {v:Value} {ρr:Env} {assign body:Code} {K:Value->World->Prop}
    (hy:Qr n ρ y=.func (.yield l) #[] #[]) (hx:Qr n ρ x=v) (hr:RecAt w l ⟨.ready,none,fid,(act m ρr).tmps,#[p],assign,body,D⟩)
    (h : WD P (some l) m assign ⟨fun ds ρ1 w1 => RecAt w1 l ⟨.ready, none, fid, (act m ρr).tmps, #[p], assign, body, D⟩ /\
        ∀ w2,Chg [.pointer (some ⟨l,0,none⟩)] w1 w2->RecAt w2 l ⟨.busy,none,fid,(act m ρr).tmps,#[p],assign,body,D⟩ ->
          WD P (some l) m body ⟨fun _ _ w3=>RecAt w3 l ⟨.busy,none,fid,(act m ρr).tmps,#[p],assign,body,D⟩/\∀ w4,Chg [.pointer (some ⟨l,0,none⟩)] w3 w4->RecAt w4 l ⟨.ready,none,fid,(act m ρr).tmps,#[p],assign,body,D⟩->K (.bool true) w4,
            fun _ _ _ _=>False,
            fun _ _ w3=>RecAt w3 l ⟨.busy,none,fid,(act m ρr).tmps,#[p],assign,body,D⟩/\∀ w4,Chg [.pointer (some ⟨l,0,none⟩)] w3 w4->RecAt w4 l ⟨.done,some .ret,fid,(act m ρr).tmps,#[p],assign,body,D⟩->K (.bool false) w4⟩ ds ρ1 w2,
        fun _ _ _ _=>False,fun _ _ _=>False⟩ [] (upd ρr p v) w):Qhz P ⟨d,.call ⟨.value y,#[x],aT⟩,t,pp,af,gu⟩ n ρ w K:=by
  have e0:((#[p].zip #[v]).foldl (fun tmps (t,a)=>tmps.setIfInBounds t a) (act m ρr).tmps)=(act m (upd ρr p v)).tmps:=by
    have:=Qxo m ρr p v;simp only [Act.put] at this;have h2:=congrArg Act.tmps this;simpa using h2
  have hE:execOp (Qr n ρ) ⟨d,.call ⟨.value y,#[x],aT⟩,t,pp,af,gu⟩=Instr.yield l #[v]:=by
    simp [execOp,resolve,Deferred.ofValue,invoke,hy,hx]
  refine ⟨fun w1 r=>by rw [hE];exact QMf (hr.ext r.ext) rfl,.inr fun w1 r=>?_⟩;have hr1:=hr.ext r.ext;have hyl:=run_yield (P:=P) (args:=#[v]) hr1 (by simp);rw [e0] at hyl;rw [hE,hyl];intro c cs Stop hk
  -- the round
  have eR:∀ ds ρ' todo,({ fn:=fid,tmps:=(act m ρ').tmps,todo:=todo,defers:=ds,mode:=.run,kind:=.normal,roundOf:=some l }:Frame)=(Frame.atR { (default:Frame) with fn:=fid,kind:=.normal,roundOf:=some l } (Yz m ρ' ds) todo):=fun _ _ _=>rfl
  show Wlk (JD.j (P:=P)) Stop (G (Frame.round l fid (act m (upd ρr p v)).tmps assign body .normal) (c::cs)) w1;have e1:Frame.round l fid (act m (upd ρr p v)).tmps assign body .normal=(Frame.atR { (default:Frame) with fn:=fid,kind:=.normal,roundOf:=some l } (Yz m (upd ρr p v) []) (.code assign::[.beginRound,.code body])):=rfl;rw [e1];refine Wlk.rely ?_ r;refine h { (default:Frame) with fn:=fid,kind:=.normal,roundOf:=some l } [.beginRound,.code body] (c::cs) Stop (by simp) rfl fun e a w2 he=>?_;cases e<;>first
    | exact he.elim
    | (obtain ⟨_,_,_,hf⟩:=he;exact hf.elim)
    | skip
  obtain ⟨ds,ρ1,rfl,hr2,h2⟩:=he;refine .by rfl fun w3 r3=>?_
  have hr3:=hr2.ext r3.ext;have hb3:=run_beginRound (P:=P) hr3 rfl
  have hbs : ∀ W W', (Instr.beginRound l).run P W = .ok () W' -> stepG P (JD.j (P := P)).main (G (Frame.atR { (default : Frame) with fn := fid, kind := .normal, roundOf := some l } (Yz m ρ1 ds) [.beginRound, .code body]) (c :: cs)) W =
      .go (G (Frame.atR { (default:Frame) with fn:=fid,kind:=.normal,roundOf:=some l } (Yz m ρ1 ds) [.code body]) (c::cs)) W' (seen P fid ((Instr.beginRound l).events P W #[])):=fun W W' hW=>by
    have hT:=Sem.runT_eq P (Instr.beginRound l) W #[];rw [hW] at hT;have hT2:((Instr.beginRound l) >>= fun _=>Pure.pure Next.skip:Sem Next).runT P W #[]=(.ok .skip W',(Instr.beginRound l).events P W #[]):=Xo hT;rw [Sem.runT_eq] at hT2;have h1:=(Prod.mk.inj hT2).1;have h2:=(Prod.mk.inj hT2).2;rw [<-h2];exact Qxy (fr:=Frame.atR { (default:Frame) with fn:=fid,kind:=.normal,roundOf:=some l } (Yz m ρ1 ds) [.beginRound,.code body]) (by grind) h1
  refine ⟨_,_,Qfw (fn:=fid) (QMa hr3 rfl) hb3 hbs,?_⟩;have hch:Chg [.pointer (some ⟨l,0,none⟩)] w2 (w3.putObj l (.loop ⟨.busy,none,fid,(act m ρr).tmps,#[p],assign,body,D⟩)):=(r3.ext.mono (fun _ h=>by cases h)).trans Qio;refine h2 _ hch hr3.put { (default:Frame) with fn:=fid,kind:=.normal,roundOf:=some l } [] (c::cs) Stop (by simp) rfl fun e a w4 he=>?_
  have hend : ∀ (j : Option Code) (a : Act) (todo : List Item) (W W' : World) (u : Value), (todo = [] /\ j = none \/ (∃ k', todo = .code .ret :: k') /\ j = some .ret) -> (Instr.endRound l j).run P W = .ok u W' -> stepG P (JD.j (P := P)).main (G (Frame.atR { (default : Frame) with fn := fid, kind := .normal, roundOf := some l } a todo) (c :: cs)) W =
      .go (G (c.finish u) cs) W' (seen P fid ((Instr.endRound l j).events P W #[])):=fun j a todo W W' u ht hW=>by
    have hT:=Sem.runT_eq P (Instr.endRound l j) W #[];rw [hW] at hT;rcases ht with ⟨rfl,rfl⟩ | ⟨⟨k',rfl⟩,rfl⟩<;>simp [G,stepG,stepG.exec,Frame.atR,hW,GStep.after,doReturn]
  cases e<;>first
    | exact he.elim
    | (obtain ⟨_,_,_,hf⟩:=he;exact hf.elim)
    | skip
  · obtain ⟨ds',ρ',rfl,hr4,h4⟩:=he;refine .by rfl fun w5 r5=>?_
    have hr5:=hr4.ext r5.ext;refine ⟨_,_,Qfw (fn:=fid) (Qzo none hr5) (run_endRound none hr5) fun W W' hW=>hend none _ _ W W' _ (.inl ⟨rfl,rfl⟩) hW,hk _ _ (h4 _ ((r5.ext.mono (fun _ h=>by cases h)).trans Qio) hr5.put)⟩
  · obtain ⟨ds',ρ',rfl,hr4,h4⟩:=he;intro k';refine .by rfl fun w5 r5=>?_
    have hr5:=hr4.ext r5.ext;refine ⟨_,_,Qfw (fn:=fid) (Qzo (some .ret) hr5) (run_endRound (some .ret) hr5) fun W W' hW=>hend (some .ret) _ _ W W' _ (.inr ⟨⟨k',rfl⟩,rfl⟩) hW,hk _ _ (h4 _ ((r5.ext.mono (fun _ h=>by cases h)).trans Qio) hr5.put)⟩

theorem QIu {f:FuncId} {fn:Func} {c:Code} {args:List Value} {rs:List ResultVar} {Φ:Value->World->Prop} (hf:P.funcs[f]?=some fn) (hb:fn.body=some c) (hn:fn.ntmps=n) (hl:Nat.ble args.length n=true)
    (hr:fn.results=rs.toArray) (hm:Zr rs n=true)
    (h:WD P none n c ⟨fun _ _ _=>False,fun _ _ _ _=>False,fun ds ρ w=>∃ D,ds=[{ target:=.collected D,args:=#[] }]/\DefAt w D/\∀ w',Chg [.pointer (some ⟨D,0,none⟩)] w w'->∃ vs,Qac P ρ w' rs vs/\Φ (JH vs) w'⟩ [] (fun i=>args.getD i undef) w):CallsTo P f args w Φ:=by
  intro c0 cs Stop hk;rw [enter_at _ hf hb,hn];have hl:args.length<=n:=by simpa using hl
  rw [Qgh args n hl];refine h (base f) [] (c0::cs) Stop (by simp [base]) rfl fun e a w1 he=>?_;cases e<;>first
    | exact he.elim
    | (obtain ⟨_,_,_,hf⟩:=he;exact hf.elim)
    | skip
  obtain ⟨ds,ρ,rfl,D,rfl,hD,hq⟩:=he;intro k';refine .ctl rfl (fun _=>QXz rfl) ?_;refine .by rfl fun w2 r2=>?_
  have hD2:=hD.ext r2.ext
  have hstep : ∀ W W', (Instr.takeDeferred D).run P W = .ok [] W' -> stepG P (JD.j (P := P)).main (G { (base f).atR (Yz n ρ [{ target := .collected D, args := #[] }]) (.code .ret :: k') with mode := .returning } (c0 :: cs)) W =
      .go (G { (base f).at (act n ρ) (.code .ret::k') with mode:=.returning } (c0::cs)) W' (seen P (base f).fn ((Instr.takeDeferred D).events P W #[])):=fun W W' hW=>by
    have hT:=Sem.runT_eq P (Instr.takeDeferred D) W #[];rw [hW] at hT;simp [G,stepG,unwind,Frame.atR,Frame.at,Yz,act,hW,GStep.after,base];rfl
  refine ⟨_,_,Qfw (fn:=(base f).fn) (QMe hD2) (run_takeDeferred hD2) hstep,?_⟩;obtain ⟨vs,hv,hΦ⟩:=hq _ ((r2.ext.mono (fun _ h=>by cases h)).trans Qio);refine .by rfl fun w3 r3=>⟨_,w3,QGq (b:=base f) (a:=act n ρ) rfl rfl hf (Qle hr hm hv) (Qko hr hm r3 hv),(hk _ _ hΦ).rely r3⟩
end
end Go.Gw
namespace Go.Gw
open Go
section
variable {P:Program} [JD P] {n:Nat} {ρ:Env} {w:World}
theorem QUy {l D:Nat} {fid:FuncId} {tm:Array Value} {ps:Array Tmp} {a b:Code} (h:RecAt w l ⟨.ready,none,fid,tm,ps,a,b,D⟩):∃ rc:LoopState->Option Code->Loop,(∀ s p,rc s p=⟨s,p,fid,tm,ps,a,b,D⟩)/\RecAt w l (rc .ready none) :=
 ⟨fun s p=>⟨s,p,fid,tm,ps,a,b,D⟩,fun _ _=>rfl,h⟩
theorem Qic {L:List Value} {w':World} {D l:Nat} (he:Ext w w') (hD:w.heap.size<=D) (hl:l=D+1):Stepp L w (.pointer (some ⟨l,0,none⟩)::.pointer (some ⟨D,0,none⟩)::L) w' :=
 .of (he.mono (fun _ h=>by cases h)) fun y hy k e=>by
  grind [Qq,Qec]
variable {d:Option Nat} {t:TypeId} {p:String} {af:Array Edge} {gu:Option (Nat×Bool)}
theorem Qyw {f nf : Nat} {fn : Func} {c : Code} {xs : Array Operand} {aT : Array TypeId} {args : List Value} {rs : List ResultVar} {K : Value → World → Prop} (hf : P.funcs[f]? = some fn) (hname : (fn.name == "runtime.NumGoroutine") = false) (hb : fn.body = some c)
    (ha:(xs.map (Qr n ρ)).toList=args) (hn:fn.ntmps=nf) (hl:Nat.ble args.length nf=true) (hr:fn.results=rs.toArray) (hm:Zr rs nf=true)
    (h:WC P nf c ⟨fun _ _=>False,fun _ _ _=>False,fun ρ' w'=>∃ vs,Qac P ρ' w' rs vs/\K (JH vs) w'⟩ (fun i=>args.getD i undef) w):Eff P ⟨d,.call ⟨.value (.func f),xs,aT⟩,t,p,af,gu⟩ n ρ w K :=
  Qs (Φ:=K) hf hname hb ha (Q0 hf hb hn hl hr hm h) (fun _ _ h=>h)
end
section
variable {w:World}
theorem ZR {b b':Nat} (h:b' < w.heap.size) (hb:w.heap.size<=b):b≠b':=fun e=>by omega
theorem Qbl {L:List Value} {b:Nat} (h:LtL L w) (hB:b < w.heap.size):LtL (.pointer (some ⟨b,0,none⟩)::L) w:=h.cons fun k hk=>by
 grind [Qq]
theorem Qnw {v v':Value} {b:Nat} (hbl:∀ b,Qq v'=some b->Qq v=some b\/w.heap.size<=b) (h:Qq v≠some b) (hB:b < w.heap.size):Qq v'≠some b:=fun e=>by
 grind
end
end Go.Gw
