/- Laws of the walk. Condition: each theorem says its own. -/
import Derived.Test.YthonianbjkhnpaaGreatDoorGwLib23
import Derived.Test.YthonianbjkhnpaaGreatDoorGwLib5
import Derived.Test.YthonianbjkhnpaaGreatDoorGwLib25
set_option linter.unusedVariables false
set_option linter.unusedSimpArgs false
set_option linter.unusedSectionVars false
section
set_option linter.unusedSectionVars false
namespace Go.Gw
open Go Go.Conc
section
variable {P:Program} [JD P] {n:Nat} {ds:List Deferred} {ρ:Env} {w:World}
def TI (P:Program) [JD P] (n:Nat) (ops:Array Oper) (K:Env->World->Prop):List Oper->Env->World->Prop
 | [],ρ,w=>K ρ w
 | o::os,ρ,w=>StpI P n ops o ρ w (TI P n ops K os)
theorem TI.toOpsR {ops:List Oper} {K:Env->World->Prop} {Q:Exit->Act->World->Prop} (hd:∀ o∈ops,∀ c,o.op≠.defer c) (hK:∀ ρ w,K ρ w->Q .normal (Yz n ρ ds) w) :
  ∀ (m k:Nat) (ρ:Env) (w:World),k+m=ops.length->TI P n ops.toArray K (ops.drop k) ρ w->Qhb (JD.j (P:=P)) ops.toArray (List.range' k m) Q (Yz n ρ ds) w
 | 0,k,ρ,w,hk,h=>by
  rw [List.drop_eq_nil_of_le (by omega)] at h;exact QDd (hK ρ w h)
 | m+1,k,ρ,w,hk,h=>by
  have hlt:k < ops.length:=by omega
  rw [List.drop_eq_getElem_cons hlt] at h;rw [List.range'_succ];exact QDc (StpI.toOp (by simp [hlt]) (hd _ (List.getElem_mem hlt)) h fun ρ w h'=>TI.toOpsR hd hK m (k+1) ρ w (by omega) h')
theorem QHr {q:Post} {id:Nat} {ops:List Oper} (hd:Qul ops=true) (h:TI P n ops.toArray q.norm ops ρ w):WC P n (.region id ops.toArray false) q ρ w:=by
 intro b k cs Stop hb hc;have h1:=TI.toOpsR (Q:=q.Q n) (ds:=[]) (fun _ ho=>QCm hd ho) (fun ρ _ h'=>⟨ρ,rfl,h'⟩) ops.length 0 ρ w (by simp) h;rw [<-List.range_eq_range'] at h1;have e:∀ a todo,b.at a todo={ b with roundOf:=none }.atR a todo:=fun a todo=>rfl
 rw [e];refine QGv (R:=none) (a:=act n ρ) (by rw [show ops.toArray.size=ops.length from by simp];exact h1) { b with roundOf:=none } k cs Stop hb rfl fun e' a' w' q'=>?_;cases e' with
 | normal=>exact hc _ _ _ q'
 | exit id=>exact hc _ _ _ q'
 | ret =>
  have h2:∀ todo,Wlk (JD.j (P:=P)) Stop (G { b.at a' todo with mode:=.returning } cs) w':=hc _ _ _ q';exact fun k'=>.ctl rfl (fun _=>stepG_ret') (h2 _)
 | goto l=>trivial
 | panic ch=>trivial
 | outgrown=>trivial
variable {ops:Array Oper} {K:Env->World->Prop} {o:Oper} {os:List Oper} {v:Value}
theorem Qxg (h:K ρ w):TI P n ops K [] ρ w:=h
theorem Qxh (hw:XU ops o n ρ=true) (h:Qhz P o n ρ w (fun v w'=>TI P n ops K os (Xv ρ o.dst v) w')):TI P n ops K (o::os) ρ w:=by
 simp_all [TI,StpI,if_true]
theorem Qeq (hw:XU ops o n ρ=true) (hy:Yl P n ρ o w v) (h:TI P n ops K os (Xv ρ o.dst v) w):TI P n ops K (o::os) ρ w:=Qxh hw (hy.toI h)
end
end Go.Gw

end
section
set_option linter.unusedSectionVars false
set_option linter.unusedVariables false
namespace Go.Gw
open Go
section
variable {L:List Value} {w w':World} {v:Value} {b m:Nat}
end
section
variable {P:Program} [JD P] {n:Nat} {ρ:Env} {w:World} {b:Nat} {ks:List ByteArray} {k:ByteArray}
variable {d:Option Nat} {t T kt et:TypeId} {p:String} {af:Array Edge} {gu:Option (Nat×Bool)} {x y z:Operand}
theorem QJw {K:Value->World->Prop} (hu:P.underlying T=some (.map kt et)) (hk:P.underlying kt=some .string) (hx:Qr n ρ x=.map (some b)) (hy:Qr n ρ y=.string k) (hv:Qr n ρ z=.bool true) (hm:MapAt w b ks)
  (h:∀ w',Chg [.pointer (some ⟨b,0,none⟩)] w w'->MapAt w' b (ZQ ks k)->K undef w'):Eff P ⟨d,.insert T x y z,t,p,af,gu⟩ n ρ w K :=
 Qgg (d:=d) (t:=t) (p:=p) (af:=af) (gu:=gu) hu hk hx hy hv hm h
theorem Qyx {f nf : Nat} {fn : Func} {c : Code} {xs : Array Operand} {aT : Array TypeId} {args : List Value} {rs : List ResultVar} {K : Value → World → Prop} (hf : P.funcs[f]? = some fn) (hname : (fn.name == "runtime.NumGoroutine") = false) (hb : fn.body = some c)
    (ha:(xs.map (Qr n ρ)).toList=args) (hn:fn.ntmps=nf) (hl:Nat.ble args.length nf=true) (hr:fn.results=rs.toArray) (hm:Zr rs nf=true)
    (h:WC P nf c ⟨fun ρ' w'=>∃ vs,Qac P ρ' w' rs vs/\K (JH vs) w',fun _ _ _=>False,fun ρ' w'=>∃ vs,Qac P ρ' w' rs vs/\K (JH vs) w'⟩ (fun i=>args.getD i undef) w):Eff P ⟨d,.call ⟨.value (.func f),xs,aT⟩,t,p,af,gu⟩ n ρ w K :=
  Qs (Φ:=K) hf hname hb ha (Qcs hf hb hn hl hr hm h) (fun _ _ h=>h)
end
section
variable {P:Program} [JD P] {n:Nat} {ρ:Env} {w:World} {d:Option Nat} {t T U:TypeId} {p:String} {af:Array Edge} {gu:Option (Nat×Bool)} {x y:Operand}
theorem Qyz {α:Type} [Rep α] {e:TypeId} {bytes s:Nat} {c:Value} {zcs:List Value} {L:List Value} {i:Int} {zero:α} {xs:List α} {k k':IntKind} {K:Value->World->Prop} (hs:Rep.n α=s) (h0s:Nat.ble 1 s=true) (h1s:Nat.ble s 16=true) (hu:P.underlying T=some (.slice e)) (hi:EInfo P e s bytes c) (hcc:c.cells=zcs.toArray) (hcl:zcs.length=s)
    (hbm:Nat.ble bytes 65536=true) (hz:∀ L w,Rep.rd L w zcs zero) (hx:Qr n ρ x=.int k i) (hy:Qr n ρ y=.int k' i) (hm:mk i zero=some xs)
    (h:∀ v w',Ext w w'->(∀ b,Qq v=some b->w.heap.size<=b)->Own e (v::L) w' v xs->(∃ b,v=.slice (some ⟨b,0,none⟩) xs.length xs.length)->K v w'):Eff P ⟨d,.makeSlice T x y,t,p,af,gu⟩ n ρ w K:=by
  obtain ⟨h0,hmax,rfl⟩:=Qnv hm;obtain ⟨ti,g1,g2,g3,g4,_,_⟩:=hi.ex;have hbm:bytes<=65536:=by simpa using hbm
  have h0s:1<=s:=by trivial
  have h1s:s<=16:=by simpa using h1s
  obtain ⟨m,rfl⟩:∃ m:Nat,i=(m:Int):=⟨i.toNat,by omega⟩;have hmm:m<=1048576:=by omega
  have hb:ti.bytes * m<=281474976710656:=by
    rw [g3]
    calc bytes * m<=65536 * 1048576:=Nat.mul_le_mul hbm hmm
      _<=_:=by decide
  have hms:m * s<=16777216:=Nat.le_trans (Nat.mul_le_mul hmm h1s) (by decide);refine JA (Yn (Qwo _ _ _)) fun w1 e1=>?_;obtain ⟨w',hr,ho,hg⟩:=run_makeSlice_full (P:=P) (w:=w1) 0 T e ti c s hu g1 g4 g2 k k' m (by omega) hb (by unfold maxLen;omega) (Nat.zero_le _);have he:Ext w1 w':=⟨hg.os,hg.tape,hg.output,hg.size,fun b hb _=>hg.block b hb (fun e=>by cases e)⟩;simp only [execOp,hx,hy,Sem.run_bind,hr,Result.andThen,Sem.run_pure,effR];refine h _ w' (e1.trans he) (fun b hb=>by have:=e1.size;grind [Qq]) ⟨(madeCells c.cells (m * s)).toList,?_,?_⟩ ⟨_,by rw [List.length_replicate,Int.toNat_natCast]⟩
  · simp_all
  grind [Qtr,Int.toNat_natCast,Elems.rep]
end
end Go.Gw

end
