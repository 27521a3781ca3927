/- Laws of the walk. Condition: each theorem says its own. -/
import Derived.Test.YtjladlhgnoiagaaGreatDoorGwCj20
import Derived.Test.YtjladlhgnoiagaaGreatDoorGwCore
import Derived.Test.YtjladlhgnoiagaaGreatDoorGwCj6
import Derived.Test.YtjladlhgnoiagaaGreatDoorGwOpen
import Derived.WalkKit
import Derived.ProofKit
import Derived.OpenShut
import Derived.Carry
import Derived.Deep.DeepHandedRow
import Derived.Lib.LaidTab
import Derived.LaidSub
import Derived.ChangeMaps5
set_option linter.unusedVariables false
set_option linter.unusedSimpArgs false
set_option linter.unusedSectionVars false
open Bool renaming and_eq_true→Ea
section
set_option linter.unusedVariables false
set_option linter.unusedSectionVars false
namespace Go.Gw
open Go Go.Conc

section
variable {P:Program} [JD P] {n:Nat} {ρ:Env} {w:World}

theorem TS.toBK {ops:List Oper} {S:World->Prop} {m:Nat} {tail:List Nat} {Kt:Env->World->Prop} (hsel:Region.noSelect ops.toArray=true) (hw:Qcb ops.toArray m=true) :
  ∀ (body:List (Nat×Bool)) (listed:Array Bool) (ρ:Env) (w:World),listed.size=ops.toArray.size->Closed ops.toArray listed->ZQ listed m=body.length->Qcl ops.toArray m tail body listed=true->S w ->
  TS P n ops S Kt body ρ w ->
  Qch P ops.toArray S (fun listed a w=>∃ ρ,a=act n ρ/\Qdn ops.toArray tail listed=true/\Kt ρ w) body.length listed (act n ρ) w
 | [],_,ρ,_,_,_,_,hok,_,h=>⟨ρ,rfl,hok,h⟩
 | (i,false)::rest,listed,ρ,w,hls,hcl,hc,hok,hS,h=>by
  simp only [Qcl,Ea,Bool.false_eq_true,if_false] at hok;obtain ⟨⟨him,hf,hr⟩,hrest⟩:=hok;obtain ⟨o,v,hi',hq,ht⟩:=h;have hi:ops.toArray[i]?=some o:=by grind
  have him:i < m:=by simp_all
  have hr:i∈Region.ready .any ops.toArray listed:=by grind
  have hu:=(mem_ready.1 hr).1;have hc':=J3 (listed:=listed) him (by omega);refine Qtt hi him hw (Region.noSelect_spec hsel) rest.length listed _ w hls hcl (by rw [hc];rfl) (Region.free_spec hi hf) hr hq.yields hS ?_;rw [Z5];exact TS.toBK hsel hw rest _ _ w (by grind) (hcl.set hr) (by simp_all) hrest hS ht
 | (i,true)::rest,listed,ρ,w,hls,hcl,hc,hok,hS,h=>by
  simp only [Qcl,Ea,if_true,beq_iff_eq] at hok;obtain ⟨⟨him,hr⟩,hrest⟩:=hok;obtain ⟨o,hi',hs⟩:=h;have hi:ops.toArray[i]?=some o:=by grind
  have him:i < m:=by simp_all
  have hr':i∈Region.ready .any ops.toArray listed:=by grind
  have hu:=(mem_ready.1 hr').1;have hc':=J3 (listed:=listed) him (by omega);refine ⟨by grind,fun j hj=>?_⟩;have hj:j=i:=by simp_all
  subst hj;exact hs.toOp hi fun ρ w h'=>⟨h'.1,TS.toBK hsel hw rest _ _ w (by grind) (hcl.set hr') (by simp_all) hrest h'.1 h'.2⟩

theorem Qtu {ops:Array Oper} {S:World->Prop} {Kt:Array Bool->Act->World->Prop} {Kf:Act->World->Prop} {j:Nat} (hK:∀ listed a w,Kt listed a w->Qdn ops [j] listed=true/\Kf a w)
  {b:Frame} {k:List Item} {cs:List Frame} {Stop:Goroutine->World->Prop} (hb:b.kind≠.early) (hF:∀ a' w',Kf a' w'->Wlk (JD.j (P:=P)) Stop (G (b.at a' (.inRegion ops [j]::k)) cs) w') :
  ∀ (fuel t:Nat) (listed:Array Bool) (a:Act) (w:World),Qch P ops S Kt fuel listed a w->Wlk (JD.j (P:=P)) Stop (G (b.at a (.inRegion ops (Region.linearise.go .any ops (fuel+1) t listed [])::k)) cs) w:=by
 intro fuel
 induction fuel with
 | zero =>
  intro t listed a w h;obtain ⟨h1,h2⟩:=hK _ _ _ h;simp only [Qdn,Ea,beq_iff_eq] at h1;have e:Region.linearise.go .any ops (0+1) t listed []=[j]:=by
   rw [show Region.linearise.go .any ops (0+1) t listed []=(match (Region.ready .any ops listed)[t % (Region.ready .any ops listed).length]? with
    | some i=>Region.linearise.go .any ops 0 (t / (Region.ready .any ops listed).length) (listed.setIfInBounds i true) [i]
    | none=>[].reverse) from rfl,h1.1]
   have:t % [j].length=0:=by simp [Nat.mod_one]
   rw [this];rfl
  rw [e];exact hF a w h2
 | succ fuel ih =>
  intro t listed a w h;obtain ⟨h0,h1⟩:=h;rw [show Region.linearise.go .any ops (fuel+1+1) t listed []=(match (Region.ready .any ops listed)[t % (Region.ready .any ops listed).length]? with
   | some i=>Region.linearise.go .any ops (fuel+1) (t / (Region.ready .any ops listed).length) (listed.setIfInBounds i true) [i]
   | none=>[].reverse) from rfl]
  cases hi:(Region.ready .any ops listed)[t % (Region.ready .any ops listed).length]? with
  | none =>
   exfalso;cases hr:Region.ready .any ops listed with
   | nil=>exact h0 hr
   | cons x xs =>
    rw [hr] at hi;have hlt:t % (x::xs).length < (x::xs).length:=Nat.mod_lt _ (by simp);simp at hi;simp at hlt;omega
  | some i =>
   simp only [];rw [linearise_go_acc,List.reverse_singleton,List.singleton_append];exact Qjo (h1 i (List.mem_of_getElem? hi)) hb fun a' w' h'=>ih _ _ a' w' h'.2

theorem QJi {id:Nat} {ops:List Oper} {j:Nat} (S:World->World->Prop) (hm:P.follows .mixedOrders=true) (body:List (Nat×Bool)) (hok:Qmq ops.toArray j body [j]=true) (hS:∀ w,S w w) {Kt:Env->World->Prop}
  {b:Frame} {k:List Item} {cs:List Frame} {Stop:Goroutine->World->Prop} (hb:b.kind≠.early)
  (h:TS P n ops (S { w with drawn:=w.drawn+1 }) Kt body ρ { w with drawn:=w.drawn+1 }) (hF:∀ ρ' w',Kt ρ' w'->Wlk (JD.j (P:=P)) Stop (G (b.at (act n ρ') (.inRegion ops.toArray [j]::k)) cs) w') :
  Wlk (JD.j (P:=P)) Stop (G (b.at (act n ρ) (.code (.region id ops.toArray true)::k)) cs) w:=by
 simp only [Qmq,Ea] at hok;obtain ⟨⟨⟨⟨⟨hsel,hw⟩,hle⟩,hbl⟩,ht⟩,hbody⟩:=hok;have hbl:body.length=j:=by simp_all
 have ht:j+1=ops.toArray.size:=by simp_all
 have hle:j<=ops.toArray.size:=by omega
 have h1:=TS.toBK hsel hw body (Array.replicate ops.toArray.size false) ρ _ (by simp) (Closed.none _ _) (by grind [Qsn]) hbody (hS _) h;refine .by rfl fun w1 r=>⟨_,_,Qsr,?_⟩
 simp only [Region.schedule,hm,Bool.true_or,if_true];have h2:=Qtu (Kf:=fun a w=>∃ ρ,a=act n ρ/\Kt ρ w) (fun listed a w ⟨ρ,ha,hok,h⟩=>⟨hok,ρ,ha,h⟩) hb (fun a' w' ⟨ρ',ha,h⟩=>by subst ha;exact hF ρ' w' h) body.length (w1.tape w1.drawn (.order b.fn id)) _ _ _ h1;rw [hbl,ht] at h2;exact h2.rely ⟨r.os,r.tape,r.output,r.size,r.block,r.fresh⟩
end

section
variable {P:Program}
noncomputable def ZE (P:Program):Frame:={ (default:Frame) with fn:=P.funcs.size,defers:=[],mode:=.panicking [goexitEntry] }
theorem QHd {f : FuncId} {fn : Func} {c : Code} {caps : Array Value} {w : World} (hf : P.funcs[f]? = some fn) (hname : (fn.name == "runtime.NumGoroutine") = false) (hb : fn.body = some c) :
    stepG P false (born P { target:=.fn (.func f) caps,args:=#[] }) w=.go (G ((baseD f).at { tmps:=caps++Array.replicate (fn.ntmps - caps.size) undef,defers:=[] } [.code c]) [ZE P]) w #[]:=by
  have h1 : ¬ fn.name = "runtime.NumGoroutine" := by simp_all
  rw [<-enter_atD caps hf hb];simp [G,born,ZE,stepG,unwind,callDeferred,invoke,callFunc,hf,h1,hb,GStep.after,seen_none,goexitEntry]
theorem QEz {f:FuncId} {fn:Func} {a:Act} {todo:List Item} (hf:P.funcs[f]?=some fn) (hr:fn.results=#[]) (hd:a.defers=[]):QuitsD P 2 0 (G { (baseD f).at a todo with mode:=.returning } [ZE P]):=by
 refine QuitsD.ctl (g':=G (ZE P) []) rfl (fun w=>?_) ?_
 ·simp [G,stepG,unwind,doReturn,results,Frame.at,baseD,ZE,hf,hr,hd,seen,GStep.after,goexitEntry]
 refine QuitsD.ctl (g':={ G (ZE P) [] with status:=.finished }) rfl (fun w=>?_) ⟨rfl,rfl⟩;simp [G,stepG,unwind,ZE,goexitEntry,Frame.catches];rfl
theorem QFw {f:FuncId} {fn:Func} {ops:Array Oper} {j:Nat} {o:Oper} {a:Act} {ch x:Operand} {c:Nat} {v:Value} {φ:Value->World->Prop} {w:World} (hf:P.funcs[f]?=some fn) (hr:fn.results=#[]) (hd:a.defers=[])
    (ho:ops[j]?=some o) (hop:o.op=.send ch x) (hw:Region.wanted o (yielded ops a.tmps)=true) (hdst:o.dst=none) (hc:a.eval ch=.chan (some c)) (hx:a.eval x=v) (hφ:∀ w1,Rel w w1->φ v w1) :
    JJ P c φ 4 (G ((baseD f).at a [.inRegion ops [j]]) [ZE P]) w:=by
  have hrun:∀ W,(execOp a.eval o).run P W=.ok (.comm #[scase c v (.tuple #[])] true .send) W:=fun W=>by simp_all [execOp,scase]
  have hev:∀ W,listed P f a o W=#[]:=fun W=>by
    simp_all [seen_none,execOp,listed]
  refine ⟨rfl,G ((baseD f).at a [.inRegion ops [j]]) [ZE P],v,.tuple #[],fun W=>?_,?_,hφ⟩
  · exact (stepG_comm ho hw (by simp [baseD]) (hrun W)).trans (by grind [baseD])
  · have e : Conc.served (G ((baseD f).at a [.inRegion ops [j]]) [ZE P]) undef = G ((baseD f).at a [.inRegion ops []]) [ZE P] := by
      grind [G,Conc.served,baseD,undef,Frame.finish_at,Act.put]
    rw [e];exact .ctl rfl (fun _=>stepG_region_end) (.ctl rfl (fun _=>stepG_end) (QEz (todo:=[]) hf hr hd))

theorem PW.go {c:Nat} {S:Goroutine->World->Prop} {Z:Nat->Prop} {orig:Nat->Option Obj} {O:List (Value->World->Prop)} {b:Frame} {a:Act} {k:List Item} {cs:List Frame} {ops:Array Oper} {i:Nat} {rest:List Nat} {o:Oper} {cl:Call} {f:FuncId} {caps:Array Value} {w:World}
  (C:Nat->Prop) (φ:Value->World->Prop) (ho:ops[i]?=some o) (hop:o.op=.go cl) (hw:Region.wanted o (yielded ops a.tmps)=true) (hb:b.kind≠.early) (hd:∀ W,(resolve a.eval cl o.type).run P W=.ok { target:=.fn (.func f) caps,args:=#[] } W) (hde:∀ W,(resolve a.eval cl o.type).events P W #[]=#[])
  (hdst:o.dst=none)
  (hC:∀ w1,Rel w w1->Rows C w1) (hW:∀ w1,Rel w w1->Wlk (Jw P fun b=>Z b\/C b) (fun g w=>∃ k,JJ P c φ k g w) (born P { target:=.fn (.func f) caps,args:=#[] }) (hid (fun b=>Z b\/C b) (frz C w1)))
  (hn:∀ w1,Rel w w1->PW P c S (fun b=>Z b\/C b) (Jf Z C w1 orig) (O++[φ]) (G (b.at a (.inRegion ops rest::k)) cs) (frz C w1)):PW P c S Z orig O (G (b.at a (.inRegion ops (i::rest)::k)) cs) w:=by
 refine .fork _ _ C φ rfl (fun W=>?_) hC hW hn;have hrun:(execOp a.eval o).run P W=.ok (.spawn { target:=.fn (.func f) caps,args:=#[] }) W:=by simp [execOp,hop,hd]
 have hev:listed P b.fn a o W=#[]:=by
  simp_all [seen_none,execOp,listed]
 rw [stepG_spawn ho hw hb hrun rfl,hev,hdst];rfl
theorem PW.rcv {c:Nat} {S:Goroutine->World->Prop} {Z:Nat->Prop} {orig:Nat->Option Obj} {O:List (Value->World->Prop)} {b:Frame} {a:Act} {k:List Item} {cs:List Frame} {ops:Array Oper} {i:Nat} {rest:List Nat} {o:Oper} {ct el:TypeId} {dir:ChanDir} {z:Value} {ch:Operand} {w:World}
    (ho:ops[i]?=some o) (hop:o.op=.recv ct ch false) (hw:Region.wanted o (yielded ops a.tmps)=true) (hb:b.kind≠.early) (hu:P.underlying ct=some (.chan dir el)) (hz:∃ inf,P.info? el=some inf/\inf.zero=some z) (hc:a.eval ch=.chan (some c)) (hO:O≠[])
    (hn:∀ O1 φ O2,O=O1++φ::O2->∀ w1 xw w' v,Rel w w1->φ v xw->Shows xw w'->More w1 w'->(∀ b,b < c->w'.heap[b]?=w1.heap[b]?)->PW P c S Z orig (O1++O2) (G (b.at (a.put o.dst v) (.inRegion ops rest::k)) cs) w'):PW P c S Z orig O (G (b.at a (.inRegion ops (i::rest)::k)) cs) w:=by
  obtain ⟨inf,hi,hz⟩:=hz;refine .recv (G (b.at a (.inRegion ops (i::rest)::k)) cs) z rfl (fun W=>?_) hO fun O1 φ O2 e w1 xw w' v h1 h2 h3 h4 h5=>?_
  · have hrun:(execOp a.eval o).run P W=.ok (.comm #[rcase c z] true (.recv false)) W:=by simp_all [execOp,rcase,run_underlying,zeroValue,typeInfo]
    have hev:listed P b.fn a o W=#[]:=by
      unfold listed;have e1:(execOp a.eval o).runT P W #[]=(.ok (.comm #[rcase c z] true (.recv false)) W,#[]):=by
        have h0:execOp a.eval o=(do
          let d <-underlying ct
          match d with
          | .chan _ elem=>do
            let z <-zeroValue elem
            Pure.pure (Next.comm #[{ chan:=a.eval ch,send:=none,zero:=z }] true (.recv false))
          | _ => stuck "receive: channel type expected") := by grind [execOp]
        rw [h0,XE (Zw hu)];have h1:(zeroValue el).runT P W #[]=(.ok z W,#[]):=by
          simp_all [XE,typeInfo,zeroValue]
        show (zeroValue el >>= fun z=>Pure.pure (Next.comm #[{ chan:=a.eval ch,send:=none,zero:=z }] true (.recv false))).runT P W #[]=_;rw [XE h1,hc];rfl
      grind [seen_none,Prod.mk.inj,Sem.runT_eq]
    grind [stepG_comm]
  grind [Conc.served,G,Frame.finish_at]
end
end Go.Gw

end
section
set_option linter.unusedVariables false
set_option linter.unusedSectionVars false
namespace Go.Gw
open Go Go.Conc

section
variable {P:Program} [JD P] {n:Nat} {ρ:Env} {w:World} {b:Frame} {kk:List Item} {cs:List Frame} {Stop:Goroutine->World->Prop}
theorem Qqb {ops:List Oper} {K:Env->World->Prop} {k m:Nat} (hk:k+m=ops.length) (h:T0 P n ops.toArray K (ops.drop k) ρ w) (hb:b.kind≠.early)
  (hK:∀ ρ' w',K ρ' w'->Wlk (JD.j (P:=P)) Stop (G (b.at (act n ρ') kk) cs) w'):Wlk (JD.j (P:=P)) Stop (G (b.at (act n ρ) (.inRegion ops.toArray (List.range' k m)::kk)) cs) w :=
 T0.toOps (Q:=fun e a w=>match e with | .normal=>∃ ρ,a=act n ρ/\K ρ w | _=>False) (fun ρ w h=>⟨ρ,rfl,h⟩) m k ρ w hk h b kk cs Stop hb fun e a' w' q=>by
  cases e with
  | normal=>obtain ⟨ρ',rfl,h'⟩:=q;exact hK ρ' w' h'
  | _=>exact q.elim
theorem Qpz {ops:List Oper} {i:Nat} {rest:List Nat} {o:Oper} {K:Value->World->Prop} (hi:ops[i]?=some o) (hw:XP ops.toArray o n ρ=true) (h:Eff P o n ρ w K) (hb:b.kind≠.early)
  (hK:∀ v w',K v w'->Wlk (JD.j (P:=P)) Stop (G (b.at (act n (Xk ρ o.dst v)) (.inRegion ops.toArray rest::kk)) cs) w'):Wlk (JD.j (P:=P)) Stop (G (b.at (act n ρ) (.inRegion ops.toArray (i::rest)::kk)) cs) w:=by
 have hi':ops.toArray[i]?=some o:=by grind
 have hs:Stp P n ops.toArray o ρ w (fun ρ' w'=>∃ v,ρ'=Xk ρ o.dst v/\K v w'):=by
  unfold Stp;rw [if_pos hw];exact h.mono fun v w' h'=>⟨v,rfl,h'⟩
 refine Qjo (K:=fun a w=>∃ v,a=act n (Xk ρ o.dst v)/\K v w) (hs.toOp hi' fun ρ' w' ⟨v,hv,h'⟩=>⟨v,by rw [hv],h'⟩) hb fun a' w' ⟨v,ha,h'⟩=>?_;simp_all
theorem Qmr {o:Oper} {v:Value} {K:Value->World->Prop} (hy:Yl P n ρ o w v) (h:K v w):Eff P o n ρ w K:=⟨hy.1,.inl ⟨v,hy.2,h⟩⟩
theorem Qml {c:Code} {K:Env->World->Prop} (h:WC P n c ⟨K,fun _ _ _=>False,fun _ _=>False⟩ ρ w) (hb:b.kind≠.early)
  (hK:∀ ρ' w',K ρ' w'->Wlk (JD.j (P:=P)) Stop (G (b.at (act n ρ') kk) cs) w'):Wlk (JD.j (P:=P)) Stop (G (b.at (act n ρ) (.code c::kk)) cs) w :=
 h b kk cs Stop hb fun e a' w' q=>by
  cases e<;>first
   | (obtain ⟨ρ',rfl,h'⟩:=q;exact hK ρ' w' h')
   | (obtain ⟨_,_,h'⟩:=q;exact h'.elim)
   | exact q.elim
theorem Qao {id:Nat} {ops:List Oper} {K:Env->World->Prop} (h:T0 P n ops.toArray K ops ρ w) (hb:b.kind≠.early)
  (hK:∀ ρ' w',K ρ' w'->Wlk (JD.j (P:=P)) Stop (G (b.at (act n ρ') kk) cs) w'):Wlk (JD.j (P:=P)) Stop (G (b.at (act n ρ) (.code (.region id ops.toArray false)::kk)) cs) w :=
 Qml (QF (q:=⟨K,fun _ _ _=>False,fun _ _=>False⟩) h) hb hK
section
variable {J:Jd P}
theorem ZP {a:Act} {x y:Code} (h:Wlk J Stop (G (b.at a (.code x::.code y::kk)) cs) w):Wlk J Stop (G (b.at a (.code (.seq x y)::kk)) cs) w:=.ctl rfl (fun _=>stepG_seq) h
theorem Qkb {a:Act} (h:Wlk J Stop (G (b.at a kk) cs) w):Wlk J Stop (G (b.at a (.code .skip::kk)) cs) w:=.ctl rfl (fun _=>stepG_skip) h
theorem Qel {a:Act} {i:Nat} {c:Code} (h:Wlk J Stop (G (b.at a (.code c::.inBlock i::kk)) cs) w):Wlk J Stop (G (b.at a (.code (.block i c)::kk)) cs) w:=.ctl rfl (fun _=>stepG_block) h
theorem Qoh {a:Act} {i:Nat} (h:Wlk J Stop (G (b.at a kk) cs) w):Wlk J Stop (G (b.at a (.inBlock i::kk)) cs) w:=.ctl rfl (fun _=>stepG_inBlock) h
theorem Qox {a:Act} {c:Code} (h:Wlk J Stop (G (b.at a (.code c::.inLoop c::kk)) cs) w):Wlk J Stop (G (b.at a (.code (.loop c)::kk)) cs) w:=.ctl rfl (fun _=>stepG_loop) h
theorem Qoi {a:Act} {c:Code} (h:Wlk J Stop (G (b.at a (.code c::.inLoop c::kk)) cs) w):Wlk J Stop (G (b.at a (.inLoop c::kk)) cs) w:=.ctl rfl (fun _=>stepG_inLoop) h
theorem Qmu {a:Act} {id:Nat} {k':List Item} (he:exitTo id kk=some k') (h:Wlk J Stop (G (b.at a k') cs) w):Wlk J Stop (G (b.at a (.code (.exit id)::kk)) cs) w:=.ctl rfl (fun _=>stepG_exit he) h
theorem Qwe {a:Act} {ops:Array Oper} (h:Wlk J Stop (G (b.at a kk) cs) w):Wlk J Stop (G (b.at a (.inRegion ops []::kk)) cs) w:=.ctl rfl (fun _=>stepG_region_end) h
theorem Qju {a:Act} {id:Nat} {ops:Array Oper} (h:Wlk J Stop (G (b.at a (.inRegion ops (List.range ops.size)::kk)) cs) w):Wlk J Stop (G (b.at a (.code (.region id ops false)::kk)) cs) w:=.ctl rfl (fun _=>stepG_region) h
theorem Qhv {c:Operand} {x y:Code} {t:Bool} (hc:Qo n ρ c=.bool t) (h:Wlk J Stop (G (b.at (act n ρ) (.code (bif t then x else y)::kk)) cs) w):Wlk J Stop (G (b.at (act n ρ) (.code (.cond c x y)::kk)) cs) w:=by
 refine .ctl rfl (fun _=>stepG_cond (by rw [Js];exact hc)) ?_
 grind
end
end

section
variable {P:Program} {c:Nat} {S:Goroutine->World->Prop} {Z:Nat->Prop} {orig:Nat->Option Obj} {O:List (Value->World->Prop)} {g:Goroutine} {w w1 w':World}
theorem PW.rely (h:PW P c S Z orig O g w) (r:Rel w w1):PW P c S Z orig O g w1:=by
 cases h with
 | done h1 h2=>exact .done h1 fun w2 r2=>h2 w2 (r.trans r2)
 | step nx h1 h2 h3=>exact .step nx h1 (fun w2 r2=>h2 w2 (r.trans r2)) (fun w2 r2=>h3 w2 (r.trans r2))
 | fork g' child C φ h1 h2 h3 h4 h5=>exact .fork g' child C φ h1 h2 (fun w2 r2=>h3 w2 (r.trans r2)) (fun w2 r2=>h4 w2 (r.trans r2)) (fun w2 r2=>h5 w2 (r.trans r2))
 | recv g2 z h1 h2 h3 h4=>exact .recv g2 z h1 h2 h3 fun O1 φ O2 e w2 xw w3 v r2=>h4 O1 φ O2 e w2 xw w3 v (r.trans r2)
theorem PW.stop (h:PW P c S Z orig O g w):Wlk (Jp P Z) (fun g w=>PW P c S Z orig O g w) g w:=.stop fun _ r=>h.rely r
end

/-! ### Rows -/
def RowAt (w:World) (b:Nat) (cs:List Value):Prop:=∃ e fz,w.heap[b]?=some (.cells cs.toArray e fz)
theorem RowAt.at {w:World} {b:Nat} {cs:List Value} (h:RowAt w b cs):At w ⟨b,0,none⟩ cs:=by
 obtain ⟨e,fz,h⟩:=h
 grind [At.of_block]
theorem Box.row {w:World} {b:Nat} {cs:List Value} {T:TypeId} (h:Box w b cs T):RowAt w b cs:=⟨_,_,h⟩
theorem RowAt.lt {w:World} {b:Nat} {cs:List Value} (h:RowAt w b cs):b < w.heap.size:=by obtain ⟨_,_,h⟩:=h;grind
theorem RowAt.step {L L':List Value} {w w':World} {b:Nat} {cs:List Value} (s:Stepp L w L' w') (hA:Avoids L b) (h:RowAt w b cs):RowAt w' b cs:=by
 obtain ⟨e,fz,h⟩:=h;obtain ⟨⟨fz',h1⟩,_⟩:=s.keeps h hA;exact ⟨e,fz',h1⟩
theorem Yi {b x:Nat} (h:x≠b):Avoids [pt b] x:=fun y hy e=>by
 simp_all [pt,Qs,List.mem_singleton]
theorem Qjl {L:List Value} {b x:Nat} (h:pt b∈L) (hA:Avoids L x):x≠b:=fun e=>hA _ h (by simp [pt,Qs,e])

def CC (w:World) (b8:Nat):Nat->Prop:=fun b=>b≠b8/\∃ cs e fz,w.heap[b]?=some (.cells cs e fz)
structure Inv (w0:World) (b8:Nat) (Z:Nat->Prop) (orig:Nat->Option Obj) (w:World):Prop where
 os:w.os=w0.os
 tape:w.tape=w0.tape
 output:w.output=w0.output
 size:w0.heap.size<=w.heap.size
 old:∀ b,b < w0.heap.size->b≠b8->(Z b->orig b=w0.heap[b]?)/\(¬ Z b->w.heap[b]?=w0.heap[b]?)
 zrow:∀ b,Z b->∃ cs e fz fz',w.heap[b]?=some (.cells cs e fz)/\orig b=some (.cells cs e fz')
 z8:¬ Z b8
 lt8:b8 < w0.heap.size
section
variable {w0 w w1 w':World} {b8:Nat} {Z:Nat->Prop} {orig:Nat->Option Obj} {L:List Value}
theorem Inv.start (h:b8 < w0.heap.size):Inv w0 b8 (fun _=>False) (fun _=>none) w0:=⟨rfl,rfl,rfl,Nat.le_refl _,fun _ _ _=>⟨fun h=>h.elim,fun _=>rfl⟩,fun _ h=>h.elim,fun h=>h,h⟩
theorem Inv.chg {b:Nat} (h:Inv w0 b8 Z orig w) (c:Chg [pt b] w w') (hb:b=b8\/(w0.heap.size<=b/\¬ Z b)):Inv w0 b8 Z orig w':=by
  have hz:∀ x,Z x->x≠b:=fun x hx e=>by
    subst e;rcases hb with rfl | ⟨_,h1⟩
    · exact h.z8 hx
    grind
  refine ⟨c.os.trans h.os,c.tape.trans h.tape,c.output.trans h.output,Nat.le_trans h.size c.size,fun x hx h8=>⟨(h.old x hx h8).1,fun hn=>?_⟩,fun x hx=>?_,h.z8,h.lt8⟩
  · have hne : x ≠ b := fun e => by
      omega
    rw [c.block x (Nat.lt_of_lt_of_le hx h.size) (Yi hne)];exact (h.old x hx h8).2 hn
  · obtain ⟨cs,e,fz,fz',h1,h2⟩:=h.zrow x hx;exact ⟨cs,e,fz,fz',by rw [c.block x (Zc h1) (Yi (hz x hx))];exact h1,h2⟩
theorem Inv.ext (h:Inv w0 b8 Z orig w) (c:Ext w w'):Inv w0 b8 Z orig w':=h.chg (b:=b8) (c.mono fun _ h=>by cases h) (.inl rfl)
theorem Inv.rel (h:Inv w0 b8 Z orig w) (r:Rel w w'):Inv w0 b8 Z orig w':=h.ext r.ext
theorem Inv.more {c:Nat} (h:Inv w0 b8 Z orig w) (hm:More w w') (hl:∀ b,b < c->w'.heap[b]?=w.heap[b]?) (hc:w0.heap.size<=c):Inv w0 b8 Z orig w' :=
 ⟨hm.os.trans h.os,hm.tape.trans h.tape,hm.output.trans h.output,by rw [hm.size];exact h.size,fun b hb h8=>⟨(h.old b hb h8).1,fun hn=>by rw [hl b (by omega)];exact (h.old b hb h8).2 hn⟩,fun b hb=>by
  obtain ⟨cs,e,fz,fz',h1,h2⟩:=h.zrow b hb;exact ⟨cs,e,fz,fz',hm.shows b cs e fz h1,h2⟩,h.z8,h.lt8⟩
theorem Inv.frz (h:Inv w0 b8 Z orig w) (r:Rel w w1):Inv w0 b8 (fun b=>Z b\/CC w b8 b) (Jf Z (CC w b8) w1 orig) (Gw.frz (CC w b8) w1):=by
 have h1:=h.rel r;refine ⟨h1.os,h1.tape,h1.output,by rw [Qfg];exact h1.size,fun b hb h8=>⟨fun hz=>?_,fun hn=>?_⟩,fun b hz=>?_,fun hz=>hz.elim h.z8 fun hc=>hc.1 rfl,h.lt8⟩
 ·unfold Jf;by_cases hZ:Z b
  ·rw [if_pos hZ];exact (h1.old b hb h8).1 hZ
  ·rw [if_neg hZ];exact (h1.old b hb h8).2 hZ
 ·rw [Zt,(h1.old b hb h8).2 fun e=>hn (.inl e)];simp_all
 ·by_cases hZ:Z b
  ·obtain ⟨cs,e,fz,fz',k1,k2⟩:=h1.zrow b hZ;have k3:Jf Z (CC w b8) w1 orig b=some (.cells cs e fz'):=by simp_all [if_pos,Jf]
   grind [Zt,CC]
  ·have hC:=hz.resolve_left hZ;obtain ⟨_,cs,e,fz,k1⟩:=id hC;have k2:w1.heap[b]?=some (.cells cs e fz):=(r.block b (Zc k1)).trans k1;simp_all [Zt,Jf,if_neg]
theorem Inv.stepp (h:Inv w0 b8 Z orig w) (hL:pt b8∈L):Stepp L w0 L w:=⟨fun {b cs e fz} hb hA=>⟨by
 have h8:=Qjl hL hA;have hlt:=Zc hb;by_cases hz:Z b
 ·obtain ⟨cs',e',f1,f2,k1,k2⟩:=h.zrow b hz;rw [(h.old b hlt h8).1 hz,hb] at k2;simp_all
 ·exact ⟨fz,by rw [(h.old b hlt h8).2 hz];exact hb⟩,hA⟩⟩
theorem Inv.thaw (h:Inv w0 b8 Z orig w):Chg [pt b8] w0 (Gw.thaw Z orig w):=⟨h.os,h.tape,h.output,by rw [Qkr];exact h.size,fun b hb hA=>by
 have h8:b≠b8:=Qjl (L:=[pt b8]) (by simp) hA;rw [Qby];by_cases hz:Z b
 ·obtain ⟨cs,e,f1,f2,k1,k2⟩:=h.zrow b hz;rw [k1];simp only [Option.map_some,if_pos hz,k2,Option.getD_some];rw [<-(h.old b hb h8).1 hz,k2]
 ·rw [(h.old b hb h8).2 hz];simp [hz]⟩
theorem Inv.thawS (h:Inv w0 b8 Z orig w):Stepp L w L (Gw.thaw Z orig w):=⟨fun {b cs e fz} hb hA=>⟨by
 rw [Qby,hb];by_cases hz:Z b
 ·obtain ⟨cs',e',f1,f2,k1,k2⟩:=h.zrow b hz;simp_all
 simp_all,hA⟩⟩
theorem Inv.thawB (h:Inv w0 b8 Z orig w) {cs:List Value} {T:TypeId} (hB:Box w b8 cs T):Box (Gw.thaw Z orig w) b8 cs T:=by
 unfold Box at *
 rw [Qby,hB];simp [h.z8]
theorem Qmh (hL:pt b8∈L) (r:Rel w w1):Stepp L w L (hid (fun b=>Z b\/CC w b8 b) (frz (CC w b8) w1)):=⟨fun {b cs e fz} hb hA=>⟨by
 have hC:CC w b8 b:=⟨Qjl hL hA,_,_,_,hb⟩;exact ⟨(0,cs.size),by rw [Qfi,Zt,r.block b (Zc hb),hb];simp [hC]⟩,hA⟩⟩
theorem Qzy (r:Rel w w1):Stepp L w L (frz (CC w b8) w1):=⟨fun {b cs e fz} hb hA=>⟨by
 by_cases hC:CC w b8 b
 ·exact ⟨(0,cs.size),by rw [Zt,r.block b (Zc hb),hb];simp [hC]⟩
 ·exact ⟨fz,by rw [Zt,r.block b (Zc hb),hb];simp [hC]⟩,hA⟩⟩
theorem Qzx (r:Rel w w1) {cs:List Value} {T:TypeId} (hB:Box w b8 cs T):Box (frz (CC w b8) w1) b8 cs T:=by
 have hC:¬ CC w b8 b8:=fun h=>h.1 rfl
 unfold Box at *
 rw [Zt,r.block b8 (Zc hB),hB];simp [hC]
theorem Quv (r:Rel w w1):Rows (CC w b8) w1:=fun b hb=>by
 obtain ⟨_,cs,e,fz,h⟩:=hb;exact ⟨cs,e,fz,(r.block b (Zc h)).trans h⟩
theorem Shows.stepp (h:Shows w w'):Stepp L w L w':=⟨fun {b cs e fz} hb hA=>⟨⟨fz,h b cs e fz hb⟩,hA⟩⟩
theorem Shows.box (h:Shows w w') {b:Nat} {cs:List Value} {T:TypeId} (hB:Box w b cs T):Box w' b cs T:=h _ _ _ _ hB
end

/-! ### The making of a channel -/
theorem QHe {P:Program} {main:Bool} {b:Frame} {a:Act} {k:List Item} {cs:List Frame} {ops:Array Oper} {i:Nat} {rest:List Nat} {o:Oper} {T el:TypeId} {dir:ChanDir} {x:Operand} (ho:ops[i]?=some o) (hop:o.op=.makeChan T x) (hw:Region.wanted o (yielded ops a.tmps)=true)
  (hk:b.kind≠.early) (hu:P.underlying T=some (.chan dir el)) (hx:a.eval x=.int .i64 0) (hi:((P.info? el).map (·.bytes)).isSome=true) (W:World) :
  stepG P main (G (b.at a (.inRegion ops (i::rest)::k)) cs) W=.go (G (b.at (a.put o.dst (.chan (some W.heap.size))) (.inRegion ops rest::k)) cs) { W with heap:=W.heap.push (.chan 0 #[] false 0 0 false) } #[]:=by
 cases hinf:P.info? el with
 | none=>simp_all
 | some inf =>
  have e1:(execOp a.eval o).runT P W #[]=(.ok (.value (.chan (some W.heap.size))) { W with heap:=W.heap.push (.chan 0 #[] false 0 0 false) },#[]):=by
   have h0:execOp a.eval o=(Instr.makeChan T (.int .i64 0) >>= fun v=>Pure.pure (Next.value v)):=by grind [execOp]
   rw [h0];have h1:(Instr.makeChan T (.int .i64 0)).runT P W #[]=(.ok (.chan (some W.heap.size)) { W with heap:=W.heap.push (.chan 0 #[] false 0 0 false) },#[]):=by
    unfold Instr.makeChan;rw [XE (a:=(0:Int)) (w':=W) (es':=#[]) (by rfl),XE (Zw hu)];simp only [];rw [XE (a:=inf) (w':=W) (es':=#[]) (by simp_all [XE,typeInfo])];rfl
   simp_all
  have e2:=Sem.runT_eq P (execOp a.eval o) W #[];rw [e1] at e2;rw [stepG_value ho hw hk (Prod.mk.inj e2).1.symm]
  grind [Prod.mk.inj,seen_none,listed]
end Go.Gw

end
section
set_option linter.unusedVariables false
set_option linter.unusedSectionVars false
namespace Go.Gw
open Go Go.Conc
open Go.ConcN (sumTo)
section
variable {P:Program}
def Qdy (P:Program) (f:FuncId) (args:List Value) (w:World) (Φ:Value->World->Prop):Prop:=Wlk (Jm P) (fun g w=>∀ w1,Rel w w1->Qdz P Φ g w1) (G (Frame.enter P f args.toArray .normal) []) w

theorem QJb {b:Frame} {a:Act} {todo:List Item} {fn:Func} {v:Value} {Φ:Value->World->Prop} {w:World} (hn:b.kind=.normal) (hd:a.defers=[]) (hf:P.funcs[b.fn]?=some fn) (ht:Tame P (results fn a.tmps)) (hr:(results fn a.tmps).run P w=.ok v w)
  (hi:P.inits.idxOf? b.fn=none) (hΦ:Φ v w):Qdz P Φ (G { b.at a todo with mode:=.returning } []) w:=by
 refine ⟨rfl,v,hΦ,fun F W hv hA=>?_⟩;have hT:∀ w,(results fn a.tmps).runT P w #[]=((results fn a.tmps).run P w,(results fn a.tmps).events P w #[]):=fun w=>Sem.runT_eq P _ w #[]
 have h0:=hT w;rw [hr] at h0;obtain ⟨F',W',us,h1,h2,_,h4,h5⟩:=frame ht hA hv h0;have h6:=hT W;rw [h1] at h6;have h7:=(Prod.mk.inj h6).1;have h8:=(Prod.mk.inj h6).2;have hW:W'=W:=by
  have e1:W'.heap=W.heap:=by
   apply Array.ext_getElem?;intro i;rcases Nat.lt_or_ge i W.heap.size with hlt | hge
   ·rcases Classical.em (F i) with hF | hF
    ·rw [h2.agr.own i (h2.more i hF) (fun h=>h),hA.own i hF (fun h=>h)]
    ·exact h2.keep i hlt (.inl hF)
   ·have:=h2.agr.size;have:=hA.size;simp_all
  have e2:W'.drawn=W.drawn:=by rw [h2.agr.drawn,hA.drawn]
  obtain ⟨e3,e4,e5⟩:=h2.same;cases W';simp_all
 subst hW;have hF:∀ b,F' b->F b:=fun b hb=>by
  rcases h2.new b hb with h | ⟨h,h'⟩
  ·exact h
  ·omega
 refine ⟨seen P b.fn ((results fn a.tmps).events P W' #[]),?_,fun e he=>?_⟩
 ·simp [G,stepG,unwind,doReturn,Frame.at,hn,hd,hf,<-h7,GStep.after,hi]
 ·have:=mem_seen he;rw [<-h8,h4] at this;have h9:=h5 e (by simp_all);rcases h9 with ⟨ad,k1,k2,k3,k4⟩ | h9
  ·exact .inl ⟨ad,k1,k2,hF _ k3,k4⟩
  ·exact .inr h9
end
section
variable {P:Program} {n:Nat} {w:World}
theorem QIs {f:FuncId} {fn:Func} {c:Code} {args:List Value} {rs:List ResultVar} {r:Bool} [inst:JD P] (hj:inst.j=Jm P) (hi:P.inits.idxOf? f=none) (hf:P.funcs[f]?=some fn) (hb:fn.body=some c) (hn:fn.ntmps=n) (hl:Nat.ble args.length n=true)
    (hr:fn.results=rs.toArray) (hm:YN rs n=true)
    (h:WC P n c ⟨fun _ _=>False,fun _ _ _=>False,fun ρ w'=>∃ vs,Jq P ρ w' rs vs/\(Ext w w'/\(.bool r)=tup vs)⟩ (fun i=>args.getD i undef) w):Qdy P f args w (fun v w'=>Ext w w'/\(.bool r)=v):=by
  unfold Qdy;have hl:args.length<=n:=by simpa using hl
  rw [enter_at _ hf hb,hn,Qey args n hl,<-hj];refine h (base f) [] [] _ (by simp [base]) fun e a w he=>?_;cases e<;>first
    | exact he.elim
    | (obtain ⟨_,_,hf⟩:=he;exact hf.elim)
    | skip
  obtain ⟨ρ,rfl,vs,hv,hΦ⟩:=he;exact fun todo=>.stop fun w1 r1 w2 r2=>QJb (b:=base f) rfl rfl hf (Qkq hr hm hv) (Qjy hr hm (r1.trans r2) hv) hi ⟨hΦ.1.trans (r1.trans r2).ext,hΦ.2⟩
end
/-! ### The first view -/
def Qca:Obj->Obj
 | .view ..=>Yw
 | o=>o
def view0 (W:World):World:={ W with heap:=W.heap.map Qca }
def Qdd (W:World):Nat->Prop:=fun b=>∃ o,W.heap[b]?=some o/\Qca o=o
theorem Qds {W:World} {b:Nat}:(view0 W).heap[b]?=(W.heap[b]?).map Qca:=by simp [view0]
theorem QIy {o:Obj} (h:Qca o≠o):Qca o=Yw:=by
 cases o<;>first | rfl | trivial
theorem Qsq (W:World):Agr (Qdd W) (fun _=>False) (view0 W) W:=by
 refine ⟨rfl,rfl,rfl,rfl,by simp [view0],fun b hb _=>?_,fun b _ h=>h.elim,fun b hb hlt=>?_,fun b h=>h.elim⟩
 ·obtain ⟨o,h1,h2⟩:=hb
  grind [Qds]
 ·have hlt':b < W.heap.size:=by grind [view0]
  rw [Qds,Array.getElem?_eq_getElem hlt'];simp only [Option.map_some,Option.some.injEq];exact QIy fun h=>hb ⟨_,Array.getElem?_eq_getElem hlt',h⟩
theorem QJd (W:World):NoView (view0 W):=fun b a u e=>by
 rw [Qds] at e;cases h:W.heap[b]? with
 | none=>simp_all
 | some o =>
  rw [h] at e;simp only [Option.map_some,Option.some.injEq] at e;cases o<;>simp [Qca,Yw] at e
theorem QJe {L:List Value} (W:World):Stepp L W L (view0 W):=⟨fun {b cs e fz} hb hA=>⟨⟨fz,by rw [Qds,hb];rfl⟩,hA⟩⟩
theorem QJc {P:Program} (W:World) (g:Goroutine):MI P (fun _=>False) (Qdd W) (view0 W) #[g] W #[] (fun _=>0):=by
 refine ⟨Qsq W,QJd W,fun b hb=>?_,fun l ad _ _ h=>h,fun l ad _ h=>h.elim,⟨fun said h=>?_,fun i a h=>?_,fun e g h=>?_,rfl,fun op h=>by simp at h⟩,⟨fun i x hi hx=>?_,fun j _=>rfl⟩⟩
 ·obtain ⟨o,h,_⟩:=hb
  grind
 ·obtain ⟨i,j,_,⟨a,b,h1,_⟩,_⟩:=h;trivial
 ·trivial
 ·trivial
 grind
theorem Qwh {W W' w':World} {F':Nat->Prop} (he:Ext (view0 W) w') (hA:Agr F' (fun _=>False) w' W') (hw:Went (Qdd W) W F' W'):Ext W W':=by
 refine ⟨hw.same.2.1,hw.same.1,hw.same.2.2,hw.size,fun b hb _=>?_⟩;rcases Classical.em (Qdd W b) with h | h
 ·rw [hA.own b (hw.more b h) (fun h=>h),he.block b (by grind [view0]) (Avoids.nil _)];exact ((Qsq W).own b h (fun h=>h)).symm
 ·exact hw.keep b hb h
theorem Qqo {P:Program}:∀ (N:Nat) (m m':Machine) (t t':Trace),runNT P N m t=(.next m',t')->runN P N m=.next m'
 | 0,m,m',t,t',h=>by simp only [runNT] at h;cases h;rfl
 | N+1,m,m',t,t',h=>by
  simp only [runNT] at h;simp only [runN,step];cases hs:stepT P m with
  | mk s ops =>
   rw [hs] at h;cases s with
   | next m1=>exact Qqo N m1 m' _ t' h
   | ended o w=>simp at h
theorem QIt {P:Program} {f:FuncId} {args:List Value} {W:World} {r:Bool} (h:Qdy P f args (view0 W) (fun v w'=>Ext (view0 W) w'/\(.bool r)=v)) :
  ∃ M last o W' t',runNT P (M+1) (solo (G (Frame.enter P f args.toArray .normal) []) W) #[]=(.ended o W',t')/\runN P M (solo (G (Frame.enter P f args.toArray .normal) []) W)=.next last/\step P last=.ended o W' /\
   Conc.Good P (fun v W'=>v=.bool r/\Ext W W') last o W' t':=by
 obtain ⟨N,gs',W1,sl',t1,h1,Sh',g',F1,w1,q1,h2,h3,h4,h5⟩:=QBl h (view0 W) (Rel.refl _) (fun _=>False) (Qdd W) #[G (Frame.enter P f args.toArray .normal) []] W none #[] (fun _=>0) (QJc W _) rfl;obtain ⟨n,last,o,W',t',k1,k2,k3,k4⟩:=QBk (sumTo gs'.size q1) gs' W1 sl' t1 q1 (Nat.le_refl _) h4 h2 h3;refine ⟨N+n,last,o,W',t',?_,?_,k3,k4.mono fun v hp=>?_⟩
 ·have:=Qjw N (n+1) _ _ _ _ h1;rw [Nat.add_assoc];exact this.trans k1
 ·rw [runN_add,show runN P N (solo (G (Frame.enter P f args.toArray .normal) []) W)=_ from Qqo N _ _ _ _ h1];exact k2
 ·obtain ⟨F2,w2,⟨p1,p2⟩,p3,p4,p5⟩:=hp;exact ⟨p2.symm,Qwh p1 p4 (h5.trans p5)⟩
end Go.Gw

end
section
namespace Go.Gw
open Go Go.ChangeShapes Go.WideShapes Go.RowKit

def Qdb (P:Program) (ts:List TypeId):Bool:=ts.all fun t=>P.readableRec t&&decide (t < P.types.size)
theorem Qsl {H:Type} {enc:TypeId×Value->H} {P:Program} (hl:laidOutB P=true) {W W':World} (hb:Below W.heap.size W W'):∀ {ts:List TypeId} {vs:List Value} {ds:List (DataW H)} {ps:List MemPlace},Qdb P ts=true ->
  DataW.TrodAll enc P W 0 (fun _=>true) true ts vs ds ps->(∀ x∈ps,x.block < W.heap.size)->DataW.TrodAll enc P W' 0 (fun b=>decide (b < W.heap.size)) true ts vs ds ps
 | [],vs,ds,ps,_,h,_=>by
  obtain ⟨rfl,rfl,rfl⟩:=trodAll_nil h;rfl
 | t::ts,vs,ds,ps,hr,h,hlt=>by
  simp only [Qdb,List.all_cons,Ea,decide_eq_true_eq] at hr;obtain ⟨v,vs',d,ds',p,q,rfl,rfl,rfl,h1,h2⟩:=trodAll_cons h;exact ⟨p,q,Below.trod hl hr.1.1 hr.1.2 h1 hb (fun x hx=>hlt x (List.mem_append_left _ hx)),Qsl hl hb (by simpa [Qdb] using hr.2) h2 (fun x hx=>hlt x (List.mem_append_right _ hx)),rfl⟩

theorem QBd {H:Type} {enc:TypeId×Value->H} {P:Program} {f:Func} {s:ChangeSpec} {W W':World} {args:Array Value} {ds gs:List (DataW H)} {before:List MemPlace} {B:TypeId} (hl:laidOutB P=true) (hr:Qdb P f.params.toList=true)
  (hW:DataW.Whole enc P f.params.toList s.vars false W args.toList ds gs before) (hv:s.vars=[]) (hres:(s.fn H (ds++gs)).results=[.lit (.bool true)]) (hargs:(s.fn H (ds++gs)).args=ds) (hvars:(s.fn H (ds++gs)).vars=[])
  (hrt:f.resultTypes=#[B]) (hB:P.underlying B=some .bool) (he:Ext W W'):s.post enc P f false true false false W args (.bool true) W':=by
 have hlt:=hW.lt;have hW':=hW;obtain ⟨p,q,hA,hV,rfl,hfz,hnd⟩:=hW;rw [hv] at hV;obtain ⟨rfl,rfl⟩:=trodVars_none hV;refine ⟨ds,[],p++[],[],p,[],hW',?_,?_,?_,?_,fun h=>by cases h⟩
 ·rw [hres,hrt];exact trodAll_cons_mk (shut_bool hB _) trodAll_mk0
 ·rw [hargs];exact Qsl hl he.below hr hA (fun x hx=>hlt x (by simpa using hx))
 ·rw [hvars,hv];rfl
 ·exact he.below.frame _

/-! ### Arguments -/
section
variable {H:Type} {enc:TypeId×Value->H} {P:Program} {W:World} {b0:Nat} {T:TypeId} {v:Value} {d:DataW H} {ps:List MemPlace}
theorem Qtw {α:Type} [Rep α] {V:α->Prop} {fs:Array Field} (ho:Opn P T α V) (ht:P.underlying T=some (.struct fs)) (hval:Value.okWide P W .any b0 T v) (hd:DataW.Trod enc P W 0 (fun _=>true) true T v d ps) :
  ∃ (cs:List Value) (x:α),v=.agg cs.toArray/\Rep.rd [] W cs x/\V x:=by
 unfold Value.okWide at hval;rw [ht] at hval;obtain ⟨cs,rfl,_⟩:=hval;obtain ⟨fuel,hf⟩:=hd;obtain ⟨x,h1,h2⟩:=ho.2 enc W fuel _ _ hf;exact ⟨cs.toList,x,by simp,h1,h2⟩
end
end Go.Gw

end
section
namespace Go.Gw
open Go
theorem Qty {P:Program} {W:World} {name:String} {k:IntKind} {zs:List Int} {g:Nat} (h:Lib.TabIs P W name k zs) (hg:P.globalNamed name=some g):At W ⟨g,0,none⟩ (zs.map fun z=>Value.int k z):=by
 refine ⟨rfl,fun j v hv=>?_⟩;rw [Yy,Nat.zero_add];rw [List.getElem?_map] at hv;obtain ⟨z,hz,rfl⟩:=Option.map_eq_some_iff.1 hv;have hj:j < zs.length:=by
  rcases Nat.lt_or_ge j zs.length with h1 | h1
  ·exact h1
  ·rw [List.getElem?_eq_none h1] at hz;cases hz
 have:=h.cell hg j hj;rw [this,List.getD_eq_getElem?_getD,hz];rfl
theorem At.view0 {W:World} {a:Addr} {cs:List Value} (h:At W a cs):At (view0 W) a cs:=by
 refine ⟨h.1,fun j v hv=>?_⟩;have h1:=h.2 j v hv;unfold World.cell? at h1 ⊢;rw [Qds];cases hb:W.heap[(a.add j).block]? with
 | none=>rw [hb] at h1;exact h1
 | some o =>
  rw [hb] at h1;cases o<;>first | exact h1 | cases h1
theorem QBa {P:Program} {W:World} {l:List (String×DataW Unit)} {name:String} {k:IntKind} {zs:List Int} {g t e n:Nat} (hf:l.filter (fun x=>x.1 == name)=[(name,Lib.tabData k zs)]) (hg:P.globalNamed name=some g) (hty:(P.globals[g]?).map (·.type)=some t) (ht:P.underlying t=some (.array n e)) (he:P.underlying e=some (.int k)) (hce:P.cellsOf e=1) (hct:P.cellsOf t=n) (h:laidMetH P l W) :
  At (Gw.view0 W) ⟨g,0,none⟩ (zs.map fun z=>Value.int k z):=by
 have h1:=laidMetH.filter (fun x=>x.1 == name) h;rw [hf] at h1;exact At.view0 (Qty (Lib.tabIs_of_head (rest:=[]) hg hty ht he hce hct h1) hg)
end Go.Gw

end
section
namespace Go.Gw
open Go
theorem QAe {P:Program} {W:World} {t:TypeId} {cs:List Value} {fuel:Nat} {x:DataW Unit×List MemPlace} (ht:∃ ms,P.underlying t=some (.interface ms)) (h:DataW.trod (fun _=>()) P W 0 (fun _=>true) false fuel t cs=some x):∃ v,cs=[v]/\v.oneCell'=true:=by
 obtain ⟨ms,ht⟩:=ht;cases fuel with
 | zero=>cases h
 | succ n =>
  unfold DataW.trod at h;rw [ht] at h
  match cs,h with
  | [.nilIface],_=>exact ⟨_,rfl,rfl⟩
  | [.iface u v],_=>exact ⟨_,rfl,rfl⟩
theorem Qot {P:Program} {W:World} {l:List (String×DataW Unit)} {name:String} {d:DataW Unit} {g t:Nat} (hf:l.filter (fun x=>x.1 == name)=[(name,d)]) (hd:d.handleName?=none) (hg:P.globalNamed name=some g) (hty:(P.globals[g]?).map (·.type)=some t) (ht:∃ ms,P.underlying t=some (.interface ms)) (h:laidMetH P l W) :
  ∃ v,At (Gw.view0 W) ⟨g,0,none⟩ [v]/\v.oneCell'=true:=by
 have h1:=laidMetH.filter (fun x=>x.1 == name) h;rw [hf] at h1;have h2:laidMet P [(name,d)] W:=by simpa [laidMetH,hd] using h1
 obtain ⟨ps,⟨g',t',cs,fuel,p,q,hg',ht',hvar,hr,_,_⟩,_⟩:=h2;obtain rfl:=Option.some.inj (hg.symm.trans hg');obtain rfl:=Option.some.inj (hty.symm.trans ht');obtain ⟨v,e,h3⟩:=QAe ht hr;refine ⟨v,At.view0 ⟨rfl,fun j u hu=>?_⟩,h3⟩;have h4:=World.var?_cell hg hvar j;rw [Yy,Nat.zero_add];rw [h4,<-Array.getElem?_toList,e];exact hu
theorem Qtx {H:Type} {enc:TypeId×Value->H} {P:Program} {W:World} {b0:Nat} {T:TypeId} {v:Value} {d:DataW H} {ps:List MemPlace} (ht:P.underlying T=some .string) (hval:Value.okWide P W .any b0 T v) (hd:DataW.Trod enc P W 0 (fun _=>true) true T v d ps):∃ s:ByteArray,v=.string s/\s.size<=maxLen:=by
 obtain ⟨s,h1,_,_,h2⟩:=ChangeMaps.open_string ht hval hd;exact ⟨s,h1,h2⟩
end Go.Gw

end
