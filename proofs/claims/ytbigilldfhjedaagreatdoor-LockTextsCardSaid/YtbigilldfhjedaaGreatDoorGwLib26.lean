/- A region in its order, with a call of yield in it. No condition. -/
import Derived.Test.YtbigilldfhjedaaGreatDoorGwLib23
set_option linter.unusedVariables false
set_option linter.unusedSimpArgs false
set_option linter.unusedSectionVars false
set_option linter.unusedSectionVars false
namespace Go.Gw
open Go Go.Conc
section
variable {P:Program} [JD P] {n:Nat} {ds:List Deferred} {ρ:Env} {w:World}
def TI (P:Program) [JD P] (n:Nat) (ops:Array Oper) (K:Env->World->Prop):List Oper->Env->World->Prop
 | [],ρ,w=>K ρ w
 | o::os,ρ,w=>StpI P n ops o ρ w (TI P n ops K os)
theorem TI.toOpsR {ops:List Oper} {K:Env->World->Prop} {Q:Exit->Act->World->Prop} (hd:∀ o∈ops,∀ c,o.op≠.defer c) (hK:∀ ρ w,K ρ w->Q .normal (Yv n ρ ds) w) :
  ∀ (m k:Nat) (ρ:Env) (w:World),k+m=ops.length->TI P n ops.toArray K (ops.drop k) ρ w->Qgv (JD.j (P:=P)) ops.toArray (List.range' k m) Q (Yv n ρ ds) w
 | 0,k,ρ,w,hk,h=>by
  rw [List.drop_eq_nil_of_le (by omega)] at h;exact QDp (hK ρ w h)
 | m+1,k,ρ,w,hk,h=>by
  have hlt:k < ops.length:=by omega
  rw [List.drop_eq_getElem_cons hlt] at h;rw [List.range'_succ];exact QDo (StpI.toOp (by simp [hlt]) (hd _ (List.getElem_mem hlt)) h fun ρ w h'=>TI.toOpsR hd hK m (k+1) ρ w (by omega) h')
theorem QIn {q:Post} {id:Nat} {ops:List Oper} (hd:Qtt ops=true) (h:TI P n ops.toArray q.norm ops ρ w):WC P n (.region id ops.toArray false) q ρ w:=by
 intro b k cs Stop hb hc;have h1:=TI.toOpsR (Q:=q.Q n) (ds:=[]) (fun _ ho=>QDd hd ho) (fun ρ _ h'=>⟨ρ,rfl,h'⟩) ops.length 0 ρ w (by simp) h;rw [<-List.range_eq_range'] at h1;have e:∀ a todo,b.at a todo={ b with roundOf:=none }.atR a todo:=fun a todo=>rfl
 rw [e];refine QHq (R:=none) (a:=act n ρ) (by rw [show ops.toArray.size=ops.length from by simp];exact h1) { b with roundOf:=none } k cs Stop hb rfl fun e' a' w' q'=>?_;cases e' with
 | normal=>exact hc _ _ _ q'
 | exit id=>exact hc _ _ _ q'
 | ret =>
  have h2:∀ todo,Wlk (JD.j (P:=P)) Stop (G { b.at a' todo with mode:=.returning } cs) w':=hc _ _ _ q';exact fun k'=>.ctl rfl (fun _=>stepG_ret') (h2 _)
 | goto l=>trivial
 | panic ch=>trivial
 | outgrown=>trivial
variable {ops:Array Oper} {K:Env->World->Prop} {o:Oper} {os:List Oper} {v:Value}
theorem Qwn (h:K ρ w):TI P n ops K [] ρ w:=h
theorem Qwo (hw:XQ ops o n ρ=true) (h:Qhl P o n ρ w (fun v w'=>TI P n ops K os (Xm ρ o.dst v) w')):TI P n ops K (o::os) ρ w:=by
 simp_all [TI,StpI,if_true]
theorem Qdy (hw:XQ ops o n ρ=true) (hy:Yl P n ρ o w v) (h:TI P n ops K os (Xm ρ o.dst v) w):TI P n ops K (o::os) ρ w:=Qwo hw (hy.toI h)
end
end Go.Gw
