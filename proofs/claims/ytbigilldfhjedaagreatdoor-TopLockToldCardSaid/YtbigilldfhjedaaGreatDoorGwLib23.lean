/- Laws of the walk. Condition: each theorem says its own. -/
import Derived.Test.YtbigilldfhjedaaGreatDoorGwLib21
import Derived.Test.YtbigilldfhjedaaGreatDoorGwVd
import Derived.RangeFuncLeaves
import Derived.RangeFuncRecord
import Derived.AtR
import Derived.Test.YtbigilldfhjedaaGreatDoorGwLib5
set_option linter.unusedVariables false
set_option linter.unusedSimpArgs false
set_option linter.unusedSectionVars false
open List renaming drop_eq_getElem_cons→Ea,getElem?_eq_some_iff→Eb,drop_eq_nil_of_le→Ec,range_eq_range'→Ed
section
set_option linter.unusedSectionVars false
set_option linter.unusedVariables false
namespace Go.Gw
open Go Go.Conc

section
variable {P:Program} {main:Bool} {b:Frame} {a:Act} {k:List Item} {cs:List Frame} {w:World}
theorem QWp:stepG P main (G (b.atR a (.code .skip::k)) cs) w=.go (G (b.atR a k) cs) w:=by rfl
theorem QWj {id:Nat}:stepG P main (G (b.atR a (.inBlock id::k)) cs) w=.go (G (b.atR a k) cs) w:=by rfl
theorem QWo {x y:Code}:stepG P main (G (b.atR a (.code (.seq x y)::k)) cs) w=.go (G (b.atR a (.code x::.code y::k)) cs) w:=by rfl
theorem QWi {c:Operand} {x y:Code} {t:Bool} (h:a.eval c=.bool t):stepG P main (G (b.atR a (.code (.cond c x y)::k)) cs) w=.go (G (b.atR a (.code (if t then x else y)::k)) cs) w:=by
 have h':(b.atR a (.code (.cond c x y)::k)).eval c=.bool t:=by trivial
 grind [G,stepG,stepG.exec,Frame.atR]
theorem QWh {id:Nat} {c:Code}:stepG P main (G (b.atR a (.code (.block id c)::k)) cs) w=.go (G (b.atR a (.code c::.inBlock id::k)) cs) w:=by rfl
theorem QWl {id:Nat} {ops:Array Oper}:stepG P main (G (b.atR a (.code (.region id ops false)::k)) cs) w=.go (G (b.atR a (.inRegion ops (List.range ops.size)::k)) cs) w:=by rfl
theorem QWm {ops:Array Oper}:stepG P main (G (b.atR a (.inRegion ops []::k)) cs) w=.go (G (b.atR a k) cs) w:=by rfl
theorem QWn (hb:b.roundOf=none):stepG P main (G (b.atR a (.code .ret::k)) cs) w=.go (G { b.atR a (.code .ret::k) with mode:=.returning } cs) w:=by simp [G,stepG,stepG.exec,Frame.atR,hb]
theorem QWq {ops:Array Oper} {i:Nat} {rest:List Nat} {o:Oper} (ho:ops[i]?=some o) (hw:Region.wanted o (yielded ops a.tmps)=false) :
  stepG P main (G (b.atR a (.inRegion ops (i::rest)::k)) cs) w=.go (G (b.atR (a.put o.dst undef) (.inRegion ops rest::k)) cs) w:=by
 grind [G,stepG,stepG.exec,Frame.atR,undef,Frame.finish_atR]
theorem QWk {ops:Array Oper} {i:Nat} {rest:List Nat} {o:Oper} (hd:∀ c,o.op≠.defer c) (ho:ops[i]?=some o) (hw:Region.wanted o (yielded ops a.tmps)=true) :
  stepG P main (G (b.atR a (.inRegion ops (i::rest)::k)) cs) w=stepG.apply P true (b.atR a (.inRegion ops (i::rest)::k)) cs none (execOp a.eval o) w:=by
 have he:=Frame.eval_atR b a (.inRegion ops (i::rest)::k);simp only [Frame.atR] at he;simp only [G,stepG,stepG.exec,Frame.atR,ho,hw,Option.map_some,Option.getD_some,if_true,stepG.oper,Frame.oper?,he];simp_all
theorem Qxc {fr:Frame} {m:Sem Next} {v:Value} {w':World} (hk:fr.kind≠.early) (hr:m.run P w=.ok (.value v) w'):stepG.apply P true fr cs none m w=.go (G (fr.finish v) cs) w' (seen P fr.fn (m.events P w #[])):=by
 simp_all [stepG.apply,G,GStep.after,CallKind.early,false]
theorem Qxb {fr:Frame} {m:Sem Next} {w':World} (hk:fr.kind≠.early) (hr:m.run P w=.ok .skip w'):stepG.apply P true fr cs none m w=.go (G (fr.finish undef) cs) w' (seen P fr.fn (m.events P w #[])):=by
 simp_all [stepG.apply,G,GStep.after,CallKind.early,false]
theorem Qwz {fr:Frame} {m:Sem Next} {f:FuncId} {args:Array Value} {w':World} (hk:fr.kind≠.early) (ht:∀ d r s k,fr.todo≠.call d true r s::k) (hr:m.run P w=.ok (.enter f args) w') :
  stepG.apply P true fr cs none m w=.go (G (Frame.enter P f args .normal) (fr::cs)) w' (seen P fr.fn (m.events P w #[])):=by
 simp_all [stepG.apply,G,GStep.after,true,CallKind.wrapped,absurd,CallKind.early,false]
theorem QGn {fr:Frame} {m:Sem Next} {l:Nat} {f:FuncId} {tm:Array Value} {x y:Code} {w':World} (hk:fr.kind≠.early) (hr:m.run P w=.ok (.round l f tm x y) w') :
  stepG.apply P true fr cs none m w=.go (G (Frame.round l f tm x y .normal) (fr::cs)) w' (seen P fr.fn (m.events P w #[])):=by
 simp_all [stepG.apply,G,GStep.after,CallKind.early,false]
end

/-! ### Steps in the view -/
section
variable {P:Program} {main:Bool} {Z:Nat->Prop}
theorem Qes {α:Type} {m:Sem α} {g g':Goroutine} {w w':World} {r:α} {fn:FuncId} (ht:YY P m w) (hr:m.run P w=.ok r w')
  (hg:∀ W W',m.run P W=.ok r W'->stepG P main g W=.go g' W' (seen P fn (m.events P W #[]))):JV P main Z g w g' w':=by
 intro hv;have hT:∀ w,m.runT P w #[]=(m.run P w,m.events P w #[]):=fun w=>Sem.runT_eq P _ w #[]
 have h0:=hT w;rw [hr] at h0;obtain ⟨_,_,_,_,_,hv',_,_⟩:=ht (Agr.self w) hv h0;refine ⟨hv',fun F W hA=>?_⟩;obtain ⟨F',W',us,h1,h2,_,h4,h5⟩:=ht hA hv h0
 grind [mem_seen,Prod.mk.inj]
end

/-! ### A piece of code in a frame that may be a round -/
section
variable {P:Program}
def AfterR (J:Jd P) (Stop:Goroutine->World->Prop) (b:Frame) (k:List Item) (cs:List Frame):Exit->Act->World->Prop
 | .normal,a,w=>Wlk J Stop (G (b.atR a k) cs) w
 | .exit id,a,w=>∃ k',exitTo id k=some k'/\Wlk J Stop (G (b.atR a k') cs) w
 | .ret,a,w=>∀ k',Wlk J Stop (G (b.atR a (.code .ret::k')) cs) w
 | _,_,_=>False
def JS (J:Jd P) (R:Option Nat) (c:Code) (Q:Exit->Act->World->Prop) (a:Act) (w:World):Prop :=
 ∀ (b:Frame) (k:List Item) (cs:List Frame) (Stop:Goroutine->World->Prop),b.kind≠.early->b.roundOf=R ->
  (∀ e a' w',Q e a' w'->AfterR J Stop b k cs e a' w')->Wlk J Stop (G (b.atR a (.code c::k)) cs) w
def Qga (J:Jd P) (ops:Array Oper) (todo:List Nat) (Q:Exit->Act->World->Prop) (a:Act) (w:World):Prop :=
 ∀ (b:Frame) (k:List Item) (cs:List Frame) (Stop:Goroutine->World->Prop),b.kind≠.early ->
  (∀ e a' w',Q e a' w'->AfterR J Stop b k cs e a' w')->Wlk J Stop (G (b.atR a (.inRegion ops todo::k)) cs) w
def RoundJ (J:Jd P) (l:Nat) (f:FuncId) (tm:Array Value) (x y:Code) (w:World) (Φ:Value->World->Prop):Prop :=
 ∀ (c:Frame) (cs:List Frame) (Stop:Goroutine->World->Prop),(∀ v w',Φ v w'->Wlk J Stop (G (c.finish v) cs) w')->Wlk J Stop (G (Frame.round l f tm x y .normal) (c::cs)) w
def upR (J:Jd P) (o:Oper) (a:Act) (K:Act->World->Prop):Result Next->Prop
 | .ok (.value v) w'=>K (a.put o.dst v) w'
 | .ok .skip w'=>K (a.put o.dst undef) w'
 | .ok (.enter f args) w'=>CallsJ J f args w' (fun v w''=>K (a.put o.dst v) w'')
 | .ok (.round l f tm x y) w'=>RoundJ J l f tm x y w' (fun v w''=>K (a.put o.dst v) w'')
 | _=>False
def opR (J:Jd P) (ops:Array Oper) (i:Nat) (K:Act->World->Prop) (a:Act) (w:World):Prop :=
 match ops[i]? with
 | none=>False
 | some o=>(∀ c,o.op≠.defer c)/\if Region.wanted o (yielded ops a.tmps) then Fr P (execOp a.eval o) w/\((∃ v,(∀ w1,Rel w w1->(execOp a.eval o).run P w1=.ok (.value v) w1)/\K (a.put o.dst v) w)\/∀ w1,Rel w w1->upR J o a K ((execOp a.eval o).run P w1)) else K (a.put o.dst undef) w

variable {J:Jd P} {R:Option Nat} {Q:Exit->Act->World->Prop} {a:Act} {w:World}
theorem RoundJ.mono {l:Nat} {f:FuncId} {tm:Array Value} {x y:Code} {Φ Ψ:Value->World->Prop} (h:RoundJ J l f tm x y w Φ) (hm:∀ v w',Φ v w'->Ψ v w'):RoundJ J l f tm x y w Ψ:=fun c cs Stop hk=>h c cs Stop fun v w' hv=>hk v w' (hm v w' hv)
theorem AfterR.push {Stop:Goroutine->World->Prop} {b:Frame} {x:Item} {k:List Item} {cs:List Frame} {e:Exit} (hx:x.plain=true) (he:e≠.normal) (h:AfterR J Stop b k cs e a w):AfterR J Stop b (x::k) cs e a w:=by
 cases e with
 | normal=>trivial
 | exit id=>obtain ⟨k',hk,hg⟩:=h;exact ⟨k',by cases x<;>simp_all [exitTo,Item.plain],hg⟩
 | ret=>exact h
 | goto l=>exact h
 | panic ch=>exact h
 | outgrown=>exact h
theorem QFc {c:Code} {Q':Exit->Act->World->Prop} (h:JS J R c Q a w) (hq:∀ e a w,Q e a w->Q' e a w):JS J R c Q' a w :=
 fun b k cs Stop hb hR hc=>h b k cs Stop hb hR fun e a' w' q=>hc e a' w' (hq e a' w' q)
theorem QZq (h:Q .normal a w):JS J R .skip Q a w:=fun b k cs Stop _ _ hc=>.ctl rfl (fun _=>QWp) (hc _ _ _ h)
theorem QZo (h:Q .ret a w):JS J R .ret Q a w:=fun b k cs Stop _ _ hc=>hc _ _ _ h k
theorem QZp {x y:Code} (h:JS J R x (Exit.then (fun a' w'=>JS J R y Q a' w') Q) a w):JS J R (.seq x y) Q a w:=by
 intro b k cs Stop hb hR hc;refine .ctl rfl (fun _=>QWo) (h b (.code y::k) cs Stop hb hR fun e a' w' q=>?_);cases e with
 | normal=>exact q b k cs Stop hb hR hc
 | exit id=>exact (hc _ _ _ q).push rfl (by simp)
 | ret=>exact (hc _ _ _ q).push (x:=.code y) rfl (by simp)
 | goto l=>exact hc _ _ _ q
 | panic ch=>exact hc _ _ _ q
 | outgrown=>exact hc _ _ _ q
theorem QZn {c:Operand} {x y:Code} {t:Bool} (hc:a.eval c=.bool t) (h1:t=true->JS J R x Q a w) (h2:t=false->JS J R y Q a w):JS J R (.cond c x y) Q a w:=by
 intro b k cs Stop hb hR hq;refine .ctl rfl (fun _=>QWi hc) ?_;cases t
 ·exact h2 rfl b k cs Stop hb hR hq
 ·exact h1 rfl b k cs Stop hb hR hq
theorem QZm {id:Nat} {c:Code} (h:JS J R c (Exit.inBlock id Q) a w):JS J R (.block id c) Q a w:=by
 intro b k cs Stop hb hR hc;refine .ctl rfl (fun _=>QWh) (h b (.inBlock id::k) cs Stop hb hR fun e a' w' q=>?_);cases e with
 | normal=>exact .ctl rfl (fun _=>QWj) (hc _ _ _ q)
 | exit id' =>
  by_cases hid:id'=id
  ·simp only [Exit.inBlock,hid,if_true] at q;exact ⟨k,by simp [exitTo,hid],hc _ _ _ q⟩
  ·simp only [Exit.inBlock,hid,if_false] at q;obtain ⟨k',hk',hg⟩:=hc _ _ _ q;have:(id == id')=false:=by grind
   exact ⟨k',by grind [exitTo],hg⟩
 | ret=>exact fun k'=>hc _ _ _ q k'
 | goto l=>exact hc _ _ _ q
 | panic ch=>exact hc _ _ _ q
 | outgrown=>exact hc _ _ _ q
theorem QBx {ops:Array Oper} (h:Q .normal a w):Qga J ops [] Q a w:=fun b k cs Stop _ hc=>.ctl rfl (fun _=>QWm) (hc _ _ _ h)
theorem QSs {ops:Array Oper} {i:Nat} {rest:List Nat} {K:Act->World->Prop} (h:opR J ops i K a w) {b:Frame} {k:List Item} {cs:List Frame} {Stop:Goroutine->World->Prop} (hb:b.kind≠.early)
    (hK:∀ a' w',K a' w'->Wlk J Stop (G (b.atR a' (.inRegion ops rest::k)) cs) w'):Wlk J Stop (G (b.atR a (.inRegion ops (i::rest)::k)) cs) w:=by
  unfold opR at h;split at h
  · exact h.elim
  · rename_i o ho;obtain ⟨hd,h⟩:=h;have hfin:∀ v,(b.atR a (.inRegion ops (i::rest)::k)).finish v=b.atR (a.put o.dst v) (.inRegion ops rest::k):=fun v=>by rw [Frame.finish_atR,ho];rfl
    have hk:(b.atR a (.inRegion ops (i::rest)::k)).kind≠.early:=hb;split at h
    · rename_i hw;obtain ⟨htm,h⟩:=h;refine .by rfl fun w1 r=>?_
      have vst : ∀ {nx : Next} {w'} {g'}, (execOp a.eval o).run P w1 = .ok nx w' -> (∀ W W', (execOp a.eval o).run P W = .ok nx W' -> stepG.apply P true (b.atR a (.inRegion ops (i :: rest) :: k)) cs none (execOp a.eval o) W = .go g' W' (seen P b.fn ((execOp a.eval o).events P W #[]))) ->
          JV P J.main J.Z (G (b.atR a (.inRegion ops (i::rest)::k)) cs) w1 g' w':=fun hr hg=>Qes (fn:=b.fn) (htm w1 r) hr fun W W' hW=>(QWk hd ho hw).trans (hg W W' hW)
      rcases h with ⟨v,h1,h2⟩ | h
      · exact ⟨_,w1,vst (h1 w1 r) (fun W W' hW=>Qxc hk hW),by rw [hfin];exact (hK _ _ h2).rely r⟩
      have h1:=h w1 r;generalize hr:(execOp a.eval o).run P w1=x at h1
      match x,h1,hr with
      | .ok (.value v) w',h1,hr=>exact ⟨_,w',vst hr (fun W W' hW=>Qxc hk hW),by rw [hfin];exact hK _ _ h1⟩
      | .ok .skip w',h1,hr=>exact ⟨_,w',vst hr (fun W W' hW=>Qxb hk hW),by rw [hfin];exact hK _ _ h1⟩
      | .ok (.enter f args) w',h1,hr =>
        refine ⟨_,w',vst hr (fun W W' hW=>Qwz hk (by intro _ _ _ _ e;cases e) hW),h1 _ _ _ fun v w'' hv=>?_⟩;simp_all
      | .ok (.round l f tm x y) w',h1,hr =>
        refine ⟨_,w',vst hr (fun W W' hW=>QGn hk hW),h1 _ _ _ fun v w'' hv=>?_⟩;simp_all
    · rename_i hw;exact .ctl rfl (fun _=>QWq ho (by grind)) (hK _ _ h)
theorem QBw {ops:Array Oper} {i:Nat} {rest:List Nat} (h:opR J ops i (fun a' w'=>Qga J ops rest Q a' w') a w):Qga J ops (i::rest) Q a w :=
 fun b k cs Stop hb hc=>QSs h hb fun a' w' h'=>h' b k cs Stop hb hc
theorem QFd {id:Nat} {ops:Array Oper} (h:Qga J ops (List.range ops.size) Q a w):JS J R (.region id ops false) Q a w :=
 fun b k cs Stop hb _ hc=>.ctl rfl (fun _=>QWl) (h b k cs Stop hb hc)
end

def Yz (n:Nat) (ρ:Env) (ds:List Deferred):Act:=⟨(act n ρ).tmps,ds⟩
theorem Qey (n:Nat) (ρ:Env) (ds:List Deferred) (d:Option Nat) (v:Value):(Yz n ρ ds).put d v=Yz n (Xn ρ d v) ds:=by
 have h:=JA n ρ d v;unfold Yz;rw [<-h];cases d<;>rfl
theorem Qpt (n:Nat) (ρ:Env) (ds:List Deferred):(Yz n ρ ds).eval=Qm n ρ:=by rw [<-Qak];rfl
structure PostD where
 norm:List Deferred->Env->World->Prop
 ex:Nat->List Deferred->Env->World->Prop
 ret:List Deferred->Env->World->Prop
def PostD.Q (n:Nat) (q:PostD):Exit->Act->World->Prop
 | .normal,a,w=>∃ ds ρ,a=Yz n ρ ds/\q.norm ds ρ w
 | .exit i,a,w=>∃ ds ρ,a=Yz n ρ ds/\q.ex i ds ρ w
 | .ret,a,w=>∃ ds ρ,a=Yz n ρ ds/\q.ret ds ρ w
 | _,_,_=>False
def WD (P:Program) [JD P] (R:Option Nat) (n:Nat) (c:Code) (q:PostD) (ds:List Deferred) (ρ:Env) (w:World):Prop:=JS (JD.j (P:=P)) R c (q.Q n) (Yz n ρ ds) w

section
variable {P:Program} [JD P] {R:Option Nat} {n:Nat} {q:PostD} {ds:List Deferred} {ρ:Env} {w:World}
theorem QGc (h:q.norm ds ρ w):WD P R n .skip q ds ρ w:=QZq ⟨ds,ρ,rfl,h⟩
theorem Qps (h:q.ret ds ρ w):WD P R n .ret q ds ρ w:=QZo ⟨ds,ρ,rfl,h⟩
theorem Qbu {x y:Code} (h:∀ K:List Deferred->Env->World->Prop,(∀ ds ρ w,WD P R n y q ds ρ w->K ds ρ w)->WD P R n x ⟨K,q.ex,q.ret⟩ ds ρ w):WD P R n (.seq x y) q ds ρ w:=by
 refine QZp (QFc (h (fun ds ρ w=>WD P R n y q ds ρ w) fun _ _ _ h=>h) fun e a w he=>?_);cases e<;>first
  | exact he
  | (obtain ⟨ds,ρ,ha,hq⟩:=he;subst ha;exact hq)
theorem QGa {c:Operand} {x y:Code} {b:Bool} (hc:Qm n ρ c=.bool b) (ht:b=true->WD P R n x q ds ρ w) (hf:b=false->WD P R n y q ds ρ w):WD P R n (.cond c x y) q ds ρ w :=
 QZn (by rw [Qpt];exact hc) ht hf
theorem Qwo {i:Nat} {c:Code} (h:WD P R n c ⟨q.norm,fun j=>bif Nat.beq j i then q.norm else q.ex j,q.ret⟩ ds ρ w):WD P R n (.block i c) q ds ρ w :=
 QZm (QFc h fun e a w he=>by
  cases e with
  | exit j =>
   obtain ⟨ds,ρ,ha,hq⟩:=he;subst ha;simp only [Exit.inBlock];by_cases hj:j=i
   ·subst hj;simp only [QAo,cond_true] at hq;rw [if_pos rfl];exact ⟨ds,ρ,rfl,hq⟩
   ·rw [if_neg hj];simp only [Qiq hj,cond_false] at hq;exact ⟨ds,ρ,rfl,hq⟩
  | _=>exact he)

/-! ### Operations, calls of yield among them -/
def Qyc (P:Program) [JD P] (K:Value->World->Prop):Result Next->Prop
 | .ok (.value v) w'=>K v w'
 | .ok .skip w'=>K undef w'
 | .ok (.enter f args) w'=>CallsJ (JD.j (P:=P)) f args w' K
 | .ok (.round l f tm x y) w'=>RoundJ (JD.j (P:=P)) l f tm x y w' K
 | _=>False
def Qgy (P:Program) [JD P] (o:Oper) (n:Nat) (ρ:Env) (w:World) (K:Value->World->Prop):Prop :=
 Fr P (execOp (Qm n ρ) o) w/\((∃ v,(∀ w1,Rel w w1->(execOp (Qm n ρ) o).run P w1=.ok (.value v) w1)/\K v w)\/∀ w1,Rel w w1->Qyc P K ((execOp (Qm n ρ) o).run P w1))
theorem effR.toI {K:Value->World->Prop} {r:Result Next} (h:effR P K r):Qyc P K r:=by
 cases r with
 | ok x w'=>cases x<;>first | exact h | exact h.elim
 | halt x w'=>exact h
theorem Eff.toI {o:Oper} {K:Value->World->Prop} (h:Eff P o n ρ w K):Qgy P o n ρ w K:=⟨h.1,h.2.imp id fun h w1 r=>(h w1 r).toI⟩
theorem Yl.toI {o:Oper} {v:Value} {K:Value->World->Prop} (h:Yl P n ρ o w v) (hK:K v w):Qgy P o n ρ w K:=⟨h.1,.inl ⟨v,h.2,hK⟩⟩
def StpI (P:Program) [JD P] (n:Nat) (ops:Array Oper) (o:Oper) (ρ:Env) (w:World) (K:Env->World->Prop):Prop :=
 if XL ops o n ρ then Qgy P o n ρ w (fun v w'=>K (Xn ρ o.dst v) w') else K (Xn ρ o.dst undef) w
theorem Stp.toI {ops:Array Oper} {o:Oper} {K:Env->World->Prop} (h:Stp P n ops o ρ w K):StpI P n ops o ρ w K:=by
 unfold Stp at h;unfold StpI;split
 ·rename_i hw;rw [if_pos hw] at h;exact h.toI
 simp_all
def Qtl (ops:List Oper):Bool:=ops.all fun o=>match o.op with | .defer _=>false | _=>true
theorem QBi {ops:List Oper} (h:Qtl ops=true) {o:Oper} (ho:o∈ops):∀ c,o.op≠.defer c:=by
 intro c hc;have:=List.all_eq_true.1 h o ho;simp_all
theorem StpI.toOp {ops:Array Oper} {i:Nat} {o:Oper} {K:Env->World->Prop} {K':Act->World->Prop} (hi:ops[i]?=some o) (hd:∀ c,o.op≠.defer c) (h:StpI P n ops o ρ w K)
  (hK:∀ ρ w,K ρ w->K' (Yz n ρ ds) w):opR (JD.j (P:=P)) ops i K' (Yz n ρ ds) w:=by
 unfold StpI XL at h;simp only [opR,hi];refine ⟨hd,?_⟩;show if Region.wanted o (yielded ops (act n ρ).tmps)=true then _ else _
 split
 ·rename_i hw;rw [if_pos hw] at h;rw [Qpt];refine ⟨h.1,h.2.imp (fun ⟨v,h1,h2⟩=>⟨v,h1,by grind [Qey]⟩) (fun h w1 r=>?_)⟩;have h1:=h w1 r;generalize (execOp (Qm n ρ) o).run P w1=x at h1
  match x,h1 with
  | .ok (.value v) w',h1=>show K' ((Yz n ρ ds).put o.dst v) w';rw [Qey];exact hK _ _ h1
  | .ok .skip w',h1=>show K' ((Yz n ρ ds).put o.dst undef) w';rw [Qey];exact hK _ _ h1
  | .ok (.enter f args) w',h1=>exact CallsJ.mono h1 fun v w'' hv=>by grind [Qey]
  | .ok (.round l f tm x y) w',h1=>exact RoundJ.mono h1 fun v w'' hv=>by grind [Qey]
 simp_all [if_neg,Qey]
theorem T0.toOpsR {ops:List Oper} {K:Env->World->Prop} {Q:Exit->Act->World->Prop} (hd:∀ o∈ops,∀ c,o.op≠.defer c) (hK:∀ ρ w,K ρ w->Q .normal (Yz n ρ ds) w) :
  ∀ (m k:Nat) (ρ:Env) (w:World),k+m=ops.length->T0 P n ops.toArray K (ops.drop k) ρ w->Qga (JD.j (P:=P)) ops.toArray (List.range' k m) Q (Yz n ρ ds) w
 | 0,k,ρ,w,hk,h=>by
  rw [Ec (by omega)] at h;exact QBx (hK ρ w h)
 | m+1,k,ρ,w,hk,h=>by
  have hlt:k < ops.length:=by omega
  rw [Ea hlt] at h;rw [List.range'_succ];exact QBw (StpI.toOp (by simp [hlt]) (hd _ (List.getElem_mem hlt)) (Stp.toI h) fun ρ w h'=>T0.toOpsR hd hK m (k+1) ρ w (by omega) h')
theorem Qbc {id:Nat} {ops:List Oper} (hd:Qtl ops=true) (h:T0 P n ops.toArray (q.norm ds) ops ρ w):WD P R n (.region id ops.toArray false) q ds ρ w :=
 QFd (by
  have:=T0.toOpsR (Q:=q.Q n) (ds:=ds) (fun _ ho=>QBi hd ho) (fun ρ _ h'=>⟨ds,ρ,rfl,h'⟩) ops.length 0 ρ w (by simp) h
  grind [Ed])

/-! ### A region that draws its order, told whole -/
section
variable {ops:List Oper} {K:Env->World->Prop} {fuel:Nat} {listed:Array Bool} {i j:Nat} {o o2:Oper} {v u:Value}
end

/-! ### The record of a loop -/
def RecAt (w:World) (l:Nat) (r:Loop):Prop:=w.heap[l]?=some (.loop r)
theorem RecAt.lt {l:Nat} {r:Loop} (h:RecAt w l r):l < w.heap.size:=ZX h
theorem RecAt.chg {w':World} {l:Nat} {r:Loop} {H:List Value} (h:RecAt w l r) (c:Chg H w w') (hA:Avoids H l):RecAt w' l r:=(c.block l h.lt hA).trans h
theorem RecAt.ext {w':World} {l:Nat} {r:Loop} (h:RecAt w l r) (c:Ext w w'):RecAt w' l r:=h.chg c (Avoids.nil _)
theorem RecAt.whole {l:Nat} {r:Loop} (h:RecAt w l r):Whole w l (.loop r):=⟨h,(by simp),(by intro e;cases e)⟩
def DefAt (w:World) (l:Nat):Prop:=w.heap[l]?=some (.deferred (some []))
theorem DefAt.lt {l:Nat} (h:DefAt w l):l < w.heap.size:=ZX h
theorem DefAt.chg {w':World} {l:Nat} {H:List Value} (h:DefAt w l) (c:Chg H w w') (hA:Avoids H l):DefAt w' l:=(c.block l h.lt hA).trans h
theorem DefAt.ext {w':World} {l:Nat} (h:DefAt w l) (c:Ext w w'):DefAt w' l:=h.chg c (Avoids.nil _)
theorem Qho {l:Nat} {o:Obj}:Chg [.pointer (some ⟨l,0,none⟩)] w (w.putObj l o):=by
 refine ⟨rfl,rfl,rfl,by simp,fun b hb hA=>?_⟩;have hne:b≠l:=fun e=>hA _ (List.mem_singleton.2 rfl) (by simp [Qu,e])
 exact World.putObj_heap_other hne
theorem RecAt.put {l:Nat} {r r':Loop} (h:RecAt w l r):RecAt (w.putObj l (.loop r')) l r':=World.putObj_heap_same h.lt
end

/-! ### What the steps of a loop do to memory -/
section
variable {P:Program} {W:World} {ev:Array Event} {l:Nat} {r:Loop}
theorem Qog (h:W.heap[l]?=some (.loop r)):(Instr.getLoop l).runT P W ev=(.ok r W,ev.push ⟨.obj l,false,false⟩):=by
 unfold Instr.getLoop;refine (Xb (show (getObj l).runT P W ev=(.ok (.loop r) W,ev.push ⟨.obj l,false,false⟩) from QCl h (by simp) rfl)).trans ?_;rfl
theorem Qub {o:Obj} (ho:o.isChan=false) (h:W.heap[l]?=some (.loop r)):(setObj l o).runT P W ev=(.ok () { W with heap:=W.heap.setIfInBounds l o },ev.push ⟨.obj l,true,false⟩):=by
 grind [QCo]
theorem QLi {w:World} {args:Array Value} (h:RecAt w l r) (hs:args.size=r.params.size):YY P (Instr.yield l args) w :=
 Qrg h.whole fun W ev hW=>by
  unfold Instr.yield;refine (Xb (Qog hW)).trans ?_;rw [if_neg (by simp [hs])];rfl
theorem QLd {w:World} (h:RecAt w l r) (hr:r.state=.ready):YY P (Instr.beginRound l) w :=
 Qhs (o':=.loop { r with state:=.busy }) h.whole (by simp) fun W ev hW=>by
  unfold Instr.beginRound;refine (Xb (Qog hW)).trans ?_;refine (Xb (Qub rfl hW)).trans ?_;rw [hr];rfl
theorem Qyo {w:World} (j:Option Code) (h:RecAt w l r):YY P (Instr.endRound l j) w :=
 Qhs (o':=.loop { r with state:=if j.isNone then .ready else .done,pending:=j }) h.whole (by simp) fun W ev hW=>by
  unfold Instr.endRound;refine (Xb (Qog hW)).trans ?_;exact (Xb (Qub rfl hW)).trans rfl
theorem QLe {w:World} (h:RecAt w l r) (hb:r.state≠.busy):YY P (Instr.endLoop l) w :=
 Qhs (o':=.loop { r with state:=.exhausted }) h.whole (by simp) fun W ev hW=>by
  unfold Instr.endLoop;refine (Xb (Qog hW)).trans ?_;rw [if_neg (by grind)];exact (Xb (Qub rfl hW)).trans rfl
theorem QLh {w:World} {D:Nat} (h:DefAt w D):YY P (Instr.takeDeferred D) w :=
 Qhs (o':=.deferred none) (v:=[]) ⟨h,(by simp),(by intro e;cases e)⟩ (by simp) fun W ev hW=>by
  unfold Instr.takeDeferred;refine (Xb (show (getObj D).runT P W ev=(.ok (.deferred (some [])) W,ev.push ⟨.obj D,false,false⟩) from QCl hW (by simp) rfl)).trans ?_;exact (Xb (show (setObj D (.deferred none)).runT P W _=(.ok () { W with heap:=W.heap.setIfInBounds D (.deferred none) },_) from QCo hW (by simp) rfl)).trans rfl
theorem tame_enterLoop {fn:FuncId} {tm:Array Value} {ps:Array Tmp} {x y:Code}:Tame P (Instr.enterLoop fn tm ps x y none):=by
 unfold Instr.enterLoop;exact .bnd (Qka _ rfl) fun r=>.bnd (.pure _) fun x=>by
  obtain ⟨a,b⟩:=x;exact .bnd (Qka _ rfl) fun _=>.pure _
end

/-! ### The statement -/
section
variable {P:Program} [JD P] {n:Nat} {ds:List Deferred} {ρ:Env} {w:World}
def Qss (q:PostD) (ds:List Deferred) (ρ:Env) (l:Nat) (w:World):Prop :=
 ∃ r,RecAt w l r/\r.state≠.busy/\match r.pending with
  | none=>∀ w',Chg [.pointer (some ⟨l,0,none⟩)] w w'->q.norm ds ρ w'
  | some .ret=>∀ w',Chg [.pointer (some ⟨l,0,none⟩)] w w'->q.ret ds ρ w'
  | _=>False
theorem QGb {g:Operand} {f nf:Nat} {fn:Func} {cf:Code} {caps:List Value} {ps:Array Tmp} {assign body:Code} {q:PostD} (hg:Qm n ρ g=.func (.func f) #[] caps.toArray)
    (hf : P.funcs[f]? = some fn) (hname : (fn.name == "runtime.NumGoroutine") = false) (hb : fn.body = some cf) (hn : fn.ntmps = nf) (hl : Nat.ble (caps.length + 1) nf = true) (hres : fn.results = #[])
    (h:∀ (fid:FuncId) (w1:World) (l D:Nat),w.heap.size<=D->l=D+1->Ext w w1->RecAt w1 l ⟨.ready,none,fid,(act n ρ).tmps,ps,assign,body,D⟩->DefAt w1 D ->
      WC P nf cf ⟨fun _ w'=>Qss q ({ target:=.collected D,args:=#[] }::ds) ρ l w',fun _ _ _=>False,fun _ w'=>Qss q ({ target:=.collected D,args:=#[] }::ds) ρ l w'⟩ (fun i=>(.func (.yield l) #[] #[]::caps).getD i undef) w1) :
    WD P none n (.rangeFunc g ps assign body) q ds ρ w:=by
  intro b k cs Stop hk hR hc;refine .by rfl fun w0 r0=>?_
  obtain ⟨W1,hW1⟩:∃ W1,(w0.alloc (.deferred (some []))).alloc (.loop ⟨.ready,none,b.fn,(act n ρ).tmps,ps,assign,body,w0.heap.size⟩)=W1:=⟨_,rfl⟩;have hext:Ext w0 W1:=by rw [<-hW1];exact Chg.trans (Ext.alloc w0 _) (Ext.alloc _ _)
  have hL1:RecAt W1 (w0.heap.size+1) ⟨.ready,none,b.fn,(act n ρ).tmps,ps,assign,body,w0.heap.size⟩:=by
    rw [<-hW1];have:=World.alloc_heap_new (w0.alloc (.deferred (some []))) (.loop ⟨.ready,none,b.fn,(act n ρ).tmps,ps,assign,body,w0.heap.size⟩)
    grind [World.size_alloc,RecAt]
  have hK1:DefAt W1 w0.heap.size:=by
    rw [<-hW1];show ((w0.heap.push _).push _)[w0.heap.size]?=_
    grind
  have hrun:=run_enterLoop_outer (P:=P) (w:=w0) b.fn (act n ρ).tmps ps assign body;rw [hW1] at hrun;have hbR:b.atR (Yz n ρ ds) (.code (.rangeFunc g ps assign body)::k)={ fn:=b.fn,tmps:=(act n ρ).tmps,todo:=.code (.rangeFunc g ps assign body)::k,defers:=ds,mode:=.run,kind:=b.kind,roundOf:=none }:=by simp [Frame.atR,Yz,hR]
  refine ⟨G (Frame.enter P f ((Value.func (.yield (w0.heap.size+1)) #[] #[]::caps).toArray) .normal) (b.atR (Yz n ρ ({ target:=.collected w0.heap.size,args:=#[] }::ds)) (.inRangeFunc (w0.heap.size+1)::k)::cs),W1,
    Qes (fn:=b.fn) tame_enterLoop.fr0 hrun fun W W' hW=>?_,?_⟩
  · -- the step itself
    have hT:∀ w,(Instr.enterLoop b.fn (act n ρ).tmps ps assign body none).runT P w #[]=((Instr.enterLoop b.fn (act n ρ).tmps ps assign body none).run P w,(Instr.enterLoop b.fn (act n ρ).tmps ps assign body none).events P w #[]):=fun w=>Sem.runT_eq P _ w #[]
    have hE:(Frame.eval { fn:=b.fn,tmps:=(act n ρ).tmps,todo:=.inRangeFunc (w0.heap.size+1)::k,defers:={ target:=.collected w0.heap.size,args:=#[] }::ds,mode:=.run,kind:=b.kind,roundOf:=none })=Qm n ρ:=by
      rw [<-Qpt n ρ ds,<-Frame.eval_atR b (Yz n ρ ds) []];rfl
    have hk':(b.kind == CallKind.early)=false:=by grind
    have hcall:=MuLone.run_callFunc_enter (P:=P) (w:=W') (args:=(Value.func (.yield (w0.heap.size+1)) #[] #[]::caps).toArray) hf hname hb;rw [hbR];simp only [G,stepG,stepG.exec,hT,hW,List.cons_append,List.nil_append];have hm:∀ (m:Sem Next),m=(resolve (Qm n ρ) { callee:=.value g,args:=#[.const (.func (.yield (w0.heap.size+1)) #[] #[])],argTypes:=#[] } 0 >>= fun d=>invoke d.target d.args)->m.runT P W' #[]=(.ok (.enter f ((Value.func (.yield (w0.heap.size+1)) #[] #[]::caps).toArray)) W',#[]):=fun m hm=>by
      subst hm;refine Eq.trans ?_ (Qoe (P:=P) (es:=#[]) (w:=W') (args:=(Value.func (.yield (w0.heap.size+1)) #[] #[]::caps).toArray) hf hname hb)
      grind [resolve,Deferred.ofValue,invoke,Qm]
    rw [hE];generalize hmm:(resolve (Qm n ρ) { callee:=.value g,args:=#[.const (.func (.yield (w0.heap.size+1)) #[] #[])],argTypes:=#[] } 0 >>= fun d=>invoke d.target d.args)=m;have hm1:=hm m hmm.symm;rw [Sem.runT_eq] at hm1;have h1:=(Prod.mk.inj hm1).1;have h2:=(Prod.mk.inj hm1).2;rw [Qwz (f:=f) (by omega) (by simp) h1,h2];simp [GStep.after,seen,G,Frame.atR,Yz,hR]
  · -- the function that is ranged over
    have hw:=h b.fn W1 (w0.heap.size+1) w0.heap.size r0.size rfl (r0.ext.trans hext) hL1 hK1;have hcall:CallsJ (JD.j (P:=P)) f ((Value.func (.yield (w0.heap.size+1)) #[] #[]::caps).toArray) W1 (fun _ w'=>Qss q ({ target:=.collected w0.heap.size,args:=#[] }::ds) ρ (w0.heap.size+1) w'):=by
      refine Qqm hf hb ?_;rw [hn,Qfi _ nf (by simp_all)];refine Qdl hw fun e a w he=>?_;cases e<;>first
        | exact he.elim
        | (obtain ⟨_,_,hf⟩:=he;exact hf.elim)
        | (obtain ⟨ρ', rfl, hq⟩ := he
           exact ⟨rfl,Qkb (rs:=[]) (vs:=[]) (w:=w) (by rw [hres]) rfl trivial,_,fun w1 r=>Qjf (rs:=[]) (vs:=[]) (by rw [hres]) rfl r trivial,hq⟩)
    refine hcall _ cs Stop fun v w' ⟨rr,hr,hst,hm⟩=>?_;have hfin:(b.atR (Yz n ρ ({ target:=.collected w0.heap.size,args:=#[] }::ds)) (.inRangeFunc (w0.heap.size+1)::k)).finish v=b.atR (Yz n ρ ({ target:=.collected w0.heap.size,args:=#[] }::ds)) (.endRangeFunc (w0.heap.size+1)::k):=rfl;rw [hfin];refine .by rfl fun w2 r2=>?_
    have hr2:RecAt w2 (w0.heap.size+1) rr:=hr.ext r2.ext
    have hstep : ∀ (j : Option Code) (W W' : World), (Instr.endLoop (w0.heap.size + 1)).run P W = .ok j W' -> stepG P (JD.j (P := P)).main (G (b.atR (Yz n ρ ({ target := .collected w0.heap.size, args := #[] } :: ds)) (.endRangeFunc (w0.heap.size + 1) :: k)) cs) W =
        .go (G (b.atR (Yz n ρ ({ target:=.collected w0.heap.size,args:=#[] }::ds)) ((j.map Item.code).toList++k)) cs) W' (seen P b.fn ((Instr.endLoop (w0.heap.size+1)).events P W #[])):=fun j W W' hW=>by
      grind [G,stepG,stepG.exec,Frame.atR,GStep.after,Sem.runT_eq,Instr.endLoop]
    refine ⟨_,_,Qes (fn:=b.fn) (QLe hr2 hst) (run_endLoop hr2 hst) (hstep _),?_⟩;have hch:Chg [.pointer (some ⟨w0.heap.size+1,0,none⟩)] w' (w2.putObj (w0.heap.size+1) (.loop { rr with state:=.exhausted })):=(r2.ext.mono (fun _ h=>by cases h)).trans Qho;generalize (w2.putObj (w0.heap.size+1) (.loop { rr with state:=.exhausted }))=w3 at hch ⊢;cases hp:rr.pending with
    | none=>rw [hp] at hm;exact hc .normal _ _ ⟨_,ρ,rfl,hm _ hch⟩
    | some cc =>
      rw [hp] at hm;cases cc with
      | ret =>
        have h3:∀ k',Wlk (JD.j (P:=P)) Stop (G (b.atR (Yz n ρ ({ target:=.collected w0.heap.size,args:=#[] }::ds)) (.code .ret::k')) cs) _:=hc .ret _ _ ⟨_,ρ,rfl,hm _ hch⟩;exact h3 k
      | _=>grind

theorem QHy {d:Option Nat} {t:TypeId} {pp:String} {af:Array Edge} {gu:Option (Nat×Bool)} {y x:Operand} {aT:Array TypeId} {l m p D:Nat} {fid:FuncId} {v:Value} {ρr:Env} {assign body:Code} {K:Value->World->Prop}
    (hy:Qm n ρ y=.func (.yield l) #[] #[]) (hx:Qm n ρ x=v) (hr:RecAt w l ⟨.ready,none,fid,(act m ρr).tmps,#[p],assign,body,D⟩)
    (h : WD P (some l) m assign ⟨fun ds ρ1 w1 => RecAt w1 l ⟨.ready, none, fid, (act m ρr).tmps, #[p], assign, body, D⟩ /\
        ∀ w2,Chg [.pointer (some ⟨l,0,none⟩)] w1 w2->RecAt w2 l ⟨.busy,none,fid,(act m ρr).tmps,#[p],assign,body,D⟩ ->
          WD P (some l) m body ⟨fun _ _ w3=>RecAt w3 l ⟨.busy,none,fid,(act m ρr).tmps,#[p],assign,body,D⟩/\∀ w4,Chg [.pointer (some ⟨l,0,none⟩)] w3 w4->RecAt w4 l ⟨.ready,none,fid,(act m ρr).tmps,#[p],assign,body,D⟩->K (.bool true) w4,
            fun _ _ _ _=>False,
            fun _ _ w3=>RecAt w3 l ⟨.busy,none,fid,(act m ρr).tmps,#[p],assign,body,D⟩/\∀ w4,Chg [.pointer (some ⟨l,0,none⟩)] w3 w4->RecAt w4 l ⟨.done,some .ret,fid,(act m ρr).tmps,#[p],assign,body,D⟩->K (.bool false) w4⟩ ds ρ1 w2,
        fun _ _ _ _=>False,fun _ _ _=>False⟩ [] (upd ρr p v) w):Qgy P ⟨d,.call ⟨.value y,#[x],aT⟩,t,pp,af,gu⟩ n ρ w K:=by
  have e0:((#[p].zip #[v]).foldl (fun tmps (t,a)=>tmps.setIfInBounds t a) (act m ρr).tmps)=(act m (upd ρr p v)).tmps:=by
    have:=Qwq m ρr p v;simp only [Act.put] at this;have h2:=congrArg Act.tmps this;simpa using h2
  have hE:execOp (Qm n ρ) ⟨d,.call ⟨.value y,#[x],aT⟩,t,pp,af,gu⟩=Instr.yield l #[v]:=by
    simp [execOp,resolve,Deferred.ofValue,invoke,hy,hx]
  refine ⟨fun w1 r=>by rw [hE];exact QLi (hr.ext r.ext) rfl,.inr fun w1 r=>?_⟩;have hr1:=hr.ext r.ext;have hyl:=run_yield (P:=P) (args:=#[v]) hr1 (by simp);rw [e0] at hyl;rw [hE,hyl];intro c cs Stop hk
  -- the round
  have eR:∀ ds ρ' todo,({ fn:=fid,tmps:=(act m ρ').tmps,todo:=todo,defers:=ds,mode:=.run,kind:=.normal,roundOf:=some l }:Frame)=(Frame.atR { (default:Frame) with fn:=fid,kind:=.normal,roundOf:=some l } (Yz m ρ' ds) todo):=fun _ _ _=>rfl
  show Wlk (JD.j (P:=P)) Stop (G (Frame.round l fid (act m (upd ρr p v)).tmps assign body .normal) (c::cs)) w1;have e1:Frame.round l fid (act m (upd ρr p v)).tmps assign body .normal=(Frame.atR { (default:Frame) with fn:=fid,kind:=.normal,roundOf:=some l } (Yz m (upd ρr p v) []) (.code assign::[.beginRound,.code body])):=rfl;rw [e1];refine Wlk.rely ?_ r;refine h { (default:Frame) with fn:=fid,kind:=.normal,roundOf:=some l } [.beginRound,.code body] (c::cs) Stop (by simp) rfl fun e a w2 he=>?_;cases e<;>first
    | exact he.elim
    | (obtain ⟨_,_,_,hf⟩:=he;exact hf.elim)
    | skip
  obtain ⟨ds,ρ1,rfl,hr2,h2⟩:=he;refine .by rfl fun w3 r3=>?_
  have hr3:=hr2.ext r3.ext;have hb3:=run_beginRound (P:=P) hr3 rfl
  have hbs : ∀ W W', (Instr.beginRound l).run P W = .ok () W' -> stepG P (JD.j (P := P)).main (G (Frame.atR { (default : Frame) with fn := fid, kind := .normal, roundOf := some l } (Yz m ρ1 ds) [.beginRound, .code body]) (c :: cs)) W =
      .go (G (Frame.atR { (default:Frame) with fn:=fid,kind:=.normal,roundOf:=some l } (Yz m ρ1 ds) [.code body]) (c::cs)) W' (seen P fid ((Instr.beginRound l).events P W #[])):=fun W W' hW=>by
    have hT:=Sem.runT_eq P (Instr.beginRound l) W #[];rw [hW] at hT;have hT2:((Instr.beginRound l) >>= fun _=>Pure.pure Next.skip:Sem Next).runT P W #[]=(.ok .skip W',(Instr.beginRound l).events P W #[]):=Xb hT;rw [Sem.runT_eq] at hT2;have h1:=(Prod.mk.inj hT2).1;have h2:=(Prod.mk.inj hT2).2;rw [<-h2];exact Qxb (fr:=Frame.atR { (default:Frame) with fn:=fid,kind:=.normal,roundOf:=some l } (Yz m ρ1 ds) [.beginRound,.code body]) (by grind) h1
  refine ⟨_,_,Qes (fn:=fid) (QLd hr3 rfl) hb3 hbs,?_⟩;have hch:Chg [.pointer (some ⟨l,0,none⟩)] w2 (w3.putObj l (.loop ⟨.busy,none,fid,(act m ρr).tmps,#[p],assign,body,D⟩)):=(r3.ext.mono (fun _ h=>by cases h)).trans Qho;refine h2 _ hch hr3.put { (default:Frame) with fn:=fid,kind:=.normal,roundOf:=some l } [] (c::cs) Stop (by simp) rfl fun e a w4 he=>?_
  have hend : ∀ (j : Option Code) (a : Act) (todo : List Item) (W W' : World) (u : Value), (todo = [] /\ j = none \/ (∃ k', todo = .code .ret :: k') /\ j = some .ret) -> (Instr.endRound l j).run P W = .ok u W' -> stepG P (JD.j (P := P)).main (G (Frame.atR { (default : Frame) with fn := fid, kind := .normal, roundOf := some l } a todo) (c :: cs)) W =
      .go (G (c.finish u) cs) W' (seen P fid ((Instr.endRound l j).events P W #[])):=fun j a todo W W' u ht hW=>by
    have hT:=Sem.runT_eq P (Instr.endRound l j) W #[];rw [hW] at hT;rcases ht with ⟨rfl,rfl⟩ | ⟨⟨k',rfl⟩,rfl⟩<;>simp [G,stepG,stepG.exec,Frame.atR,hW,GStep.after,doReturn]
  cases e<;>first
    | exact he.elim
    | (obtain ⟨_,_,_,hf⟩:=he;exact hf.elim)
    | skip
  · obtain ⟨ds',ρ',rfl,hr4,h4⟩:=he;refine .by rfl fun w5 r5=>?_
    have hr5:=hr4.ext r5.ext;refine ⟨_,_,Qes (fn:=fid) (Qyo none hr5) (run_endRound none hr5) fun W W' hW=>hend none _ _ W W' _ (.inl ⟨rfl,rfl⟩) hW,hk _ _ (h4 _ ((r5.ext.mono (fun _ h=>by cases h)).trans Qho) hr5.put)⟩
  · obtain ⟨ds',ρ',rfl,hr4,h4⟩:=he;intro k';refine .by rfl fun w5 r5=>?_
    have hr5:=hr4.ext r5.ext;refine ⟨_,_,Qes (fn:=fid) (Qyo (some .ret) hr5) (run_endRound (some .ret) hr5) fun W W' hW=>hend (some .ret) _ _ W W' _ (.inr ⟨⟨k',rfl⟩,rfl⟩) hW,hk _ _ (h4 _ ((r5.ext.mono (fun _ h=>by cases h)).trans Qho) hr5.put)⟩

theorem QHc {f:FuncId} {fn:Func} {c:Code} {args:List Value} {rs:List ResultVar} {Φ:Value->World->Prop} (hf:P.funcs[f]?=some fn) (hb:fn.body=some c) (hn:fn.ntmps=n) (hl:Nat.ble args.length n=true)
    (hr:fn.results=rs.toArray) (hm:Y3 rs n=true)
    (h:WD P none n c ⟨fun _ _ _=>False,fun _ _ _ _=>False,fun ds ρ w=>∃ D,ds=[{ target:=.collected D,args:=#[] }]/\DefAt w D/\∀ w',Chg [.pointer (some ⟨D,0,none⟩)] w w'->∃ vs,JU P ρ w' rs vs/\Φ (Jn vs) w'⟩ [] (fun i=>args.getD i undef) w):CallsTo P f args w Φ:=by
  intro c0 cs Stop hk;rw [enter_at _ hf hb,hn];have hl:args.length<=n:=by simpa using hl
  rw [Qfi args n hl];refine h (base f) [] (c0::cs) Stop (by simp [base]) rfl fun e a w1 he=>?_;cases e<;>first
    | exact he.elim
    | (obtain ⟨_,_,_,hf⟩:=he;exact hf.elim)
    | skip
  obtain ⟨ds,ρ,rfl,D,rfl,hD,hq⟩:=he;intro k';refine .ctl rfl (fun _=>QWn rfl) ?_;refine .by rfl fun w2 r2=>?_
  have hD2:=hD.ext r2.ext
  have hstep : ∀ W W', (Instr.takeDeferred D).run P W = .ok [] W' -> stepG P (JD.j (P := P)).main (G { (base f).atR (Yz n ρ [{ target := .collected D, args := #[] }]) (.code .ret :: k') with mode := .returning } (c0 :: cs)) W =
      .go (G { (base f).at (act n ρ) (.code .ret::k') with mode:=.returning } (c0::cs)) W' (seen P (base f).fn ((Instr.takeDeferred D).events P W #[])):=fun W W' hW=>by
    have hT:=Sem.runT_eq P (Instr.takeDeferred D) W #[];rw [hW] at hT;simp [G,stepG,unwind,Frame.atR,Frame.at,Yz,act,hW,GStep.after,base];rfl
  refine ⟨_,_,Qes (fn:=(base f).fn) (QLh hD2) (run_takeDeferred hD2) hstep,?_⟩;obtain ⟨vs,hv,hΦ⟩:=hq _ ((r2.ext.mono (fun _ h=>by cases h)).trans Qho);refine .by rfl fun w3 r3=>⟨_,w3,QEy (b:=base f) (a:=act n ρ) rfl rfl hf (Qkb hr hm hv) (Qjf hr hm r3 hv),(hk _ _ hΦ).rely r3⟩
end
end Go.Gw
namespace Go.Gw
open Go
section
variable {P:Program} [JD P] {n:Nat} {ρ:Env} {w:World}
theorem QTt {l D:Nat} {fid:FuncId} {tm:Array Value} {ps:Array Tmp} {a b:Code} (h:RecAt w l ⟨.ready,none,fid,tm,ps,a,b,D⟩):∃ rc:LoopState->Option Code->Loop,(∀ s p,rc s p=⟨s,p,fid,tm,ps,a,b,D⟩)/\RecAt w l (rc .ready none) :=
 ⟨fun s p=>⟨s,p,fid,tm,ps,a,b,D⟩,fun _ _=>rfl,h⟩
theorem Qhc {L:List Value} {w':World} {D l:Nat} (he:Ext w w') (hD:w.heap.size<=D) (hl:l=D+1):Stepp L w (.pointer (some ⟨l,0,none⟩)::.pointer (some ⟨D,0,none⟩)::L) w' :=
 .of (he.mono (fun _ h=>by cases h)) fun y hy k e=>by
  grind [Qu,Qed]
variable {d:Option Nat} {t:TypeId} {p:String} {af:Array Edge} {gu:Option (Nat×Bool)}
theorem QIg {f nf : Nat} {fn : Func} {c : Code} {xs : Array Operand} {aT : Array TypeId} {args : List Value} {rs : List ResultVar} {K : Value → World → Prop} (hf : P.funcs[f]? = some fn) (hname : (fn.name == "runtime.NumGoroutine") = false) (hb : fn.body = some c)
    (ha:(xs.map (Qm n ρ)).toList=args) (hn:fn.ntmps=nf) (hl:Nat.ble args.length nf=true) (hr:fn.results=rs.toArray) (hm:Y3 rs nf=true)
    (h:WC P nf c ⟨fun _ _=>False,fun _ _ _=>False,fun ρ' w'=>∃ vs,JU P ρ' w' rs vs/\K (Jn vs) w'⟩ (fun i=>args.getD i undef) w):Eff P ⟨d,.call ⟨.value (.func f),xs,aT⟩,t,p,af,gu⟩ n ρ w K :=
  Qq (Φ:=K) hf hname hb ha (QS hf hb hn hl hr hm h) (fun _ _ h=>h)
end
section
variable {w:World}
theorem JI {b b':Nat} (h:b' < w.heap.size) (hb:w.heap.size<=b):b≠b':=fun e=>by omega
theorem Qcg {L:List Value} {b:Nat} (h:LtL L w) (hB:b < w.heap.size):LtL (.pointer (some ⟨b,0,none⟩)::L) w:=h.cons fun k hk=>by
 grind [Qu]
theorem Qsy {v v':Value} {b:Nat} (hbl:∀ b,Qu v'=some b->Qu v=some b\/w.heap.size<=b) (h:Qu v≠some b) (hB:b < w.heap.size):Qu v'≠some b:=fun e=>by
 grind
end
end Go.Gw

end
section
set_option linter.unusedSectionVars false
namespace Go.Gw
open Go Go.Conc
section
variable {P:Program} [JD P] {n:Nat} {ds:List Deferred} {ρ:Env} {w:World}
def TI (P:Program) [JD P] (n:Nat) (ops:Array Oper) (K:Env->World->Prop):List Oper->Env->World->Prop
 | [],ρ,w=>K ρ w
 | o::os,ρ,w=>StpI P n ops o ρ w (TI P n ops K os)
theorem TI.toOpsR {ops:List Oper} {K:Env->World->Prop} {Q:Exit->Act->World->Prop} (hd:∀ o∈ops,∀ c,o.op≠.defer c) (hK:∀ ρ w,K ρ w->Q .normal (Yz n ρ ds) w) :
  ∀ (m k:Nat) (ρ:Env) (w:World),k+m=ops.length->TI P n ops.toArray K (ops.drop k) ρ w->Qga (JD.j (P:=P)) ops.toArray (List.range' k m) Q (Yz n ρ ds) w
 | 0,k,ρ,w,hk,h=>by
  rw [Ec (by omega)] at h;exact QBx (hK ρ w h)
 | m+1,k,ρ,w,hk,h=>by
  have hlt:k < ops.length:=by omega
  rw [Ea hlt] at h;rw [List.range'_succ];exact QBw (StpI.toOp (by simp [hlt]) (hd _ (List.getElem_mem hlt)) h fun ρ w h'=>TI.toOpsR hd hK m (k+1) ρ w (by omega) h')
theorem QFz {q:Post} {id:Nat} {ops:List Oper} (hd:Qtl ops=true) (h:TI P n ops.toArray q.norm ops ρ w):WC P n (.region id ops.toArray false) q ρ w:=by
 intro b k cs Stop hb hc;have h1:=TI.toOpsR (Q:=q.Q n) (ds:=[]) (fun _ ho=>QBi hd ho) (fun ρ _ h'=>⟨ρ,rfl,h'⟩) ops.length 0 ρ w (by simp) h;rw [<-Ed] at h1;have e:∀ a todo,b.at a todo={ b with roundOf:=none }.atR a todo:=fun a todo=>rfl
 rw [e];refine QFd (R:=none) (a:=act n ρ) (by rw [show ops.toArray.size=ops.length from by simp];exact h1) { b with roundOf:=none } k cs Stop hb rfl fun e' a' w' q'=>?_;cases e' with
 | normal=>exact hc _ _ _ q'
 | exit id=>exact hc _ _ _ q'
 | ret =>
  have h2:∀ todo,Wlk (JD.j (P:=P)) Stop (G { b.at a' todo with mode:=.returning } cs) w':=hc _ _ _ q';exact fun k'=>.ctl rfl (fun _=>stepG_ret') (h2 _)
 | goto l=>trivial
 | panic ch=>trivial
 | outgrown=>trivial
variable {ops:Array Oper} {K:Env->World->Prop} {o:Oper} {os:List Oper} {v:Value}
theorem Qwj (h:K ρ w):TI P n ops K [] ρ w:=h
theorem Qwk (hw:XL ops o n ρ=true) (h:Qgy P o n ρ w (fun v w'=>TI P n ops K os (Xn ρ o.dst v) w')):TI P n ops K (o::os) ρ w:=by
 simp_all [TI,StpI,if_true]
theorem Qdp (hw:XL ops o n ρ=true) (hy:Yl P n ρ o w v) (h:TI P n ops K os (Xn ρ o.dst v) w):TI P n ops K (o::os) ρ w:=Qwk hw (hy.toI h)
end
end Go.Gw

end
section
set_option linter.unusedSectionVars false
set_option linter.unusedVariables false
namespace Go.Gw
open Go
section
variable {L:List Value} {w w':World} {v:Value} {b m:Nat}
end
section
variable {P:Program} [JD P] {n:Nat} {ρ:Env} {w:World} {b:Nat} {ks:List ByteArray} {k:ByteArray}
variable {d:Option Nat} {t T kt et:TypeId} {p:String} {af:Array Edge} {gu:Option (Nat×Bool)} {x y z:Operand}
theorem QIi {K:Value->World->Prop} (hu:P.underlying T=some (.map kt et)) (hk:P.underlying kt=some .string) (hx:Qm n ρ x=.map (some b)) (hy:Qm n ρ y=.string k) (hv:Qm n ρ z=.bool true) (hm:MapAt w b ks)
  (h:∀ w',Chg [.pointer (some ⟨b,0,none⟩)] w w'->MapAt w' b (Jb ks k)->K undef w'):Eff P ⟨d,.insert T x y z,t,p,af,gu⟩ n ρ w K :=
 Qhq (d:=d) (t:=t) (p:=p) (af:=af) (gu:=gu) hu hk hx hy hv hm h
theorem QIh {f nf : Nat} {fn : Func} {c : Code} {xs : Array Operand} {aT : Array TypeId} {args : List Value} {rs : List ResultVar} {K : Value → World → Prop} (hf : P.funcs[f]? = some fn) (hname : (fn.name == "runtime.NumGoroutine") = false) (hb : fn.body = some c)
    (ha:(xs.map (Qm n ρ)).toList=args) (hn:fn.ntmps=nf) (hl:Nat.ble args.length nf=true) (hr:fn.results=rs.toArray) (hm:Y3 rs nf=true)
    (h:WC P nf c ⟨fun ρ' w'=>∃ vs,JU P ρ' w' rs vs/\K (Jn vs) w',fun _ _ _=>False,fun ρ' w'=>∃ vs,JU P ρ' w' rs vs/\K (Jn vs) w'⟩ (fun i=>args.getD i undef) w):Eff P ⟨d,.call ⟨.value (.func f),xs,aT⟩,t,p,af,gu⟩ n ρ w K :=
  Qq (Φ:=K) hf hname hb ha (Qkr hf hb hn hl hr hm h) (fun _ _ h=>h)
end
section
variable {P:Program} [JD P] {n:Nat} {ρ:Env} {w:World} {d:Option Nat} {t T U:TypeId} {p:String} {af:Array Edge} {gu:Option (Nat×Bool)} {x y:Operand}
theorem QIj {α:Type} [Rep α] {e:TypeId} {bytes s:Nat} {c:Value} {zcs:List Value} {L:List Value} {i:Int} {zero:α} {xs:List α} {k k':IntKind} {K:Value->World->Prop} (hs:Rep.n α=s) (h0s:Nat.ble 1 s=true) (h1s:Nat.ble s 16=true) (hu:P.underlying T=some (.slice e)) (hi:EInfo P e s bytes c) (hcc:c.cells=zcs.toArray) (hcl:zcs.length=s)
    (hbm:Nat.ble bytes 65536=true) (hz:∀ L w,Rep.rd L w zcs zero) (hx:Qm n ρ x=.int k i) (hy:Qm n ρ y=.int k' i) (hm:mk i zero=some xs)
    (h:∀ v w',Ext w w'->(∀ b,Qu v=some b->w.heap.size<=b)->Own e (v::L) w' v xs->(∃ b,v=.slice (some ⟨b,0,none⟩) xs.length xs.length)->K v w'):Eff P ⟨d,.makeSlice T x y,t,p,af,gu⟩ n ρ w K:=by
  obtain ⟨h0,hmax,rfl⟩:=Qmv hm;obtain ⟨ti,g1,g2,g3,g4,_,_⟩:=hi.ex;have hbm:bytes<=65536:=by simpa using hbm
  have h0s:1<=s:=by trivial
  have h1s:s<=16:=by simpa using h1s
  obtain ⟨m,rfl⟩:∃ m:Nat,i=(m:Int):=⟨i.toNat,by omega⟩;have hmm:m<=1048576:=by omega
  have hb:ti.bytes * m<=281474976710656:=by
    rw [g3]
    calc bytes * m<=65536 * 1048576:=Nat.mul_le_mul hbm hmm
      _<=_:=by decide
  have hms:m * s<=16777216:=Nat.le_trans (Nat.mul_le_mul hmm h1s) (by decide);refine Ja (X0 (Qvo _ _ _)) fun w1 e1=>?_;obtain ⟨w',hr,ho,hg⟩:=run_makeSlice_full (P:=P) (w:=w1) 0 T e ti c s hu g1 g4 g2 k k' m (by omega) hb (by unfold maxLen;omega) (Nat.zero_le _);have he:Ext w1 w':=⟨hg.os,hg.tape,hg.output,hg.size,fun b hb _=>hg.block b hb (fun e=>by cases e)⟩;simp only [execOp,hx,hy,Sem.run_bind,hr,Result.andThen,Sem.run_pure,effR];refine h _ w' (e1.trans he) (fun b hb=>by have:=e1.size;grind [Qu]) ⟨(madeCells c.cells (m * s)).toList,?_,?_⟩ ⟨_,by rw [List.length_replicate,Int.toNat_natCast]⟩
  · simp_all
  grind [Qst,Int.toNat_natCast,Elems.rep]
end
end Go.Gw

end
section
set_option linter.unusedSectionVars false
set_option linter.unusedVariables false
namespace Go.Gw
open Go
theorem QLl {xs:List ByteArray} {i:Int} {el:ByteArray} (h:idx xs i=some el):i < xs.length:=by obtain ⟨h0,h1,_⟩:=JG h;omega
theorem QLj {w:World} {a:Addr} {xs:List ByteArray} {i:Int} {el:ByteArray} (h:At w a (xs.map Value.string)) (hi:idx xs i=some el):At w (a.add (i.toNat * 1)) [.string el] :=
 At.elem h (by rw [List.getElem?_map,(JG hi).2.2];rfl)
theorem QLk {w:World} {g:Nat} {v:Value} {vs:List Value} (h:At w ⟨g,0,none⟩ (v::vs)):∃ (cur:Array Value) (e:TypeId) (fz:Nat×Nat),w.heap[g]?=some (.cells cur e fz)/\∀ (j:Nat) (u:Value),(v::vs)[j]?=some u->cur[j]?=some u:=by
 have key:∀ (j:Nat) (u:Value),(v::vs)[j]?=some u->∃ (cur:Array Value) (e:TypeId) (fz:Nat×Nat),w.heap[g]?=some (.cells cur e fz)/\cur[j]?=some u:=by
  intro j u hu;have h1:=h.2 j u hu;rw [YP] at h1;unfold World.cell? at h1;split at h1
  ·simp_all
  ·cases h1
 obtain ⟨cur,e,fz,h1,_⟩:=key 0 v rfl;refine ⟨cur,e,fz,h1,fun j u hu=>?_⟩;obtain ⟨cur',e',fz',h2,h3⟩:=key j u hu;rw [h1] at h2;cases h2;exact h3
theorem QLm {w:World} {g:Nat} {x:ByteArray} {xs:List ByteArray} (h:At w ⟨g,0,none⟩ ((x::xs).map Value.string)) (hl:xs.length < 1000):SlRd [] w (.slice (some ⟨g,0,none⟩) (x::xs).length (x::xs).length) (x::xs):=by
 obtain ⟨cur,e,fz,h1,h2⟩:=QLk (v:=.string x) (vs:=xs.map Value.string) h;have hn:∀ j (hj:j < (x::xs).length),cur[j]?=some (.string (x::xs)[j]):=fun j hj=>h2 j _ (by
  show ((x::xs).map Value.string)[j]?=_;rw [List.getElem?_map,List.getElem?_eq_getElem hj];rfl)
 have hsz:(x::xs).length<=cur.size:=by
  have:=hn xs.length (by simp);have h3:=(Array.getElem?_eq_some_iff.1 this).1;rw [List.length_cons];omega
 have hr:Rep.n ByteArray=1:=rfl;have hcl:cur.toList.length=cur.size:=Array.length_toList ..;refine .inr ⟨g,0,_,cur,e,fz,rfl,h1,Avoids.nil _,Nat.le_refl _,?_,?_,?_⟩
 ·have:(1000:Nat)<=maxLen:=by decide
  rw [List.length_cons];omega
 ·rw [hr];omega
 ·rw [hr,Nat.mul_one,List.drop_zero];refine ⟨by rw [hr,List.length_take,hcl];omega,fun i y hy=>?_⟩;rw [hr,Nat.mul_one];have hi:i < (x::xs).length:=(Eb.1 hy).1;have h3:=hn i hi;have hy':(x::xs)[i]=y:=(Eb.1 hy).2;show ((cur.toList.take (x::xs).length).drop i).take 1=[.string y];have hi2:i < (cur.toList.take (x::xs).length).length:=by rw [List.length_take,hcl];omega
  rw [Ea hi2,List.take_succ_cons,List.take_zero];congr 1;rw [List.getElem_take];have:=(Array.getElem?_eq_some_iff.1 h3).2;rw [Array.getElem_toList,this,hy']
structure PtrF where
 b:Nat
 o:Nat
instance instRepPtrF:Rep PtrF:=⟨1,fun _ _ cs d=>cs=[.pointer (some ⟨d.b,d.o,none⟩)],fun h=>by subst h;rfl,fun h=>by grind [Value.oneCell'],fun _ h=>h⟩
end Go.Gw

end
