/- Laws of the walk. Condition: each theorem says its own. -/
import Derived.OrdersHeld
import Derived.Tactics
import Derived.Test.YtbigilldfhjedaaGreatDoorGwCloseRow
import Derived.Laws.AppendOwn
import Derived.Laws.Cells
import Derived.Laws.OwnMore
import Derived.Laws.Tables
import Derived.Laws.Slices
import Derived.Great.BuildSlice
import Derived.Below
import Derived.Conc.MuLone
import Derived.Laws.Strings
import Derived.Laws.StructEq
import Derived.Laws.Build
import Derived.Laws.Entries
import Derived.Laws.NewBlocks
import Derived.Laws.MakeOwn
set_option linter.unusedVariables false
set_option linter.unusedSimpArgs false
set_option linter.unusedSectionVars false
open Nat renaming mul_le_mul_right→Ea,blt→Ec,lt_of_lt_of_le→Ed,beq→Eh,le_refl→Ek,add_assoc→En,le_of_not_lt→Eo,lt_or_ge→Ep,le_trans→Er,add_mul→Ev,succ_mul→EA,ble→EB
open List renaming range→Eb,getElem?_take_of_lt→Ee,mem_cons_of_mem→Ej,mem_cons_self→El,getElem?_eq_getElem→Es,drop_eq_nil_of_le→Eu,mapM_cons→Ew,getElem?_eq_none→Ey
open Bool renaming and_true→Ef,and_eq_true→Eg
open Array renaming replicate→Ei,getElem?_eq_some_iff→Em,toList_map→Et,getElem?_modify→Ex,getElem_ofFn→Ez,range→EC,getD→ED
section
set_option linter.unusedSectionVars false
set_option linter.unusedVariables false
namespace Go.Gw
open Go Go.Conc

class JD (P:Program) where
 j:Jd P

abbrev Env:=Nat->Value
def upd (ρ:Env) (d:Nat) (v:Value):Env:=fun i=>bif Eh i d then v else ρ i
def Xn (ρ:Env) (d:Option Nat) (v:Value):Env:=match d with | some d=>upd ρ d v | none=>ρ
def act (n:Nat) (ρ:Env):Act:=⟨Array.ofFn (n:=n) fun i=>ρ i.1,[]⟩
def Qm (n:Nat) (ρ:Env):Operand->Value
 | .tmp t=>bif Ec t n then ρ t else undef
 | .const v=>v
 | .global g=>.pointer (some ⟨g,0,none⟩)
 | .func f=>.func (.func f) #[] #[]

theorem Qr {α β:Type} (a:α) (f:α->Option β):(some a).bind f=f a:=rfl
theorem QAo (i:Nat):Eh i i=true:=by simp
theorem Qiq {i j:Nat} (h:i≠j):Eh i j=false:=by
 cases hb:Eh i j with
 | false=>rfl
 | true=>simp_all
theorem QPm {i j:Nat} (h:i < j):Ec i j=true:=by simp_all
theorem QAp {i j:Nat} (h:j<=i):Ec i j=false:=by
 cases hb:Ec i j with
 | false=>rfl
 | true=>grind [Nat.blt_eq]

theorem Qwq (n:Nat) (ρ:Env) (d:Nat) (v:Value):(act n ρ).put (some d) v=act n (upd ρ d v):=by
 simp only [act,Act.put];congr 1;apply Array.ext
 ·simp
 ·intro i h1 h2;simp only [Ez,upd];by_cases h:d=i
  ·subst h;simp
  simp_all [Array.getElem_setIfInBounds_ne,Qiq,Ne.symm]

theorem JA (n:Nat) (ρ:Env) (d:Option Nat) (v:Value):(act n ρ).put d v=act n (Xn ρ d v):=by
 cases d with
 | none=>rfl
 | some d=>exact Qwq n ρ d v

theorem Qak (n:Nat) (ρ:Env):(act n ρ).eval=Qm n ρ:=by
 funext x;cases x with
 | tmp t =>
  simp_all [ED,QAp,Eo,QPm,Act.eval,act,Qm]
 | const v=>rfl
 | global g=>rfl
 | func f=>rfl

theorem Qfi (args:List Value) (n:Nat) (h:args.length<=n) :
  ({ tmps:=args.toArray++Ei (n - args.toArray.size) undef,defers:=[] }:Act)=act n (fun i=>args.getD i undef):=by
 simp only [act];congr 1;apply Array.ext
 ·simp;omega
 grind [Ez,Array.getElem_append_left,List.getD,Array.getElem_append_right,Eo]

abbrev CallsTo (P:Program) [JD P] (f:FuncId) (args:List Value) (w:World) (Φ:Value->World->Prop):Prop:=CallsJ (JD.j (P:=P)) f args.toArray w Φ
theorem CallsTo.mono {P:Program} [JD P] {f:FuncId} {args:List Value} {w:World} {Φ Ψ:Value->World->Prop} (h:CallsTo P f args w Φ) (hm:∀ v w',Φ v w'->Ψ v w'):CallsTo P f args w Ψ:=CallsJ.mono h hm

structure Post where
 norm:Env->World->Prop
 ex:Nat->Env->World->Prop
 ret:Env->World->Prop

def Post.Q (n:Nat) (q:Post):Exit->Act->World->Prop
 | .normal,a,w=>∃ ρ,a=act n ρ/\q.norm ρ w
 | .exit i,a,w=>∃ ρ,a=act n ρ/\q.ex i ρ w
 | .ret,a,w=>∃ ρ,a=act n ρ/\q.ret ρ w
 | _,_,_=>False

abbrev pt (b:Nat):Value:=.pointer (some ⟨b,0,none⟩)
abbrev ptk (b k:Nat):Value:=.pointer (some ⟨b,k,none⟩)
abbrev Iv (i:Int):Value:=.int .i64 i
def WC (P:Program) [JD P] (n:Nat) (c:Code) (q:Post) (ρ:Env) (w:World):Prop:=ZN (JD.j (P:=P)) c (q.Q n) (act n ρ) w

section
variable {P:Program} [JD P] {n:Nat} {q:Post} {ρ:Env} {w:World}

theorem WC.mono {c:Code} {q':Post} (h:WC P n c q ρ w) (h1:∀ ρ w,q.norm ρ w->q'.norm ρ w) (h2:∀ i ρ w,q.ex i ρ w->q'.ex i ρ w) (h3:∀ ρ w,q.ret ρ w->q'.ret ρ w):WC P n c q' ρ w :=
 Qdl h fun e a w he=>by
  cases e<;>first
   | exact he
   | (obtain ⟨ρ,ha,hq⟩:=he;first | exact ⟨ρ,ha,h1 _ _ hq⟩ | exact ⟨ρ,ha,h2 _ _ _ hq⟩ | exact ⟨ρ,ha,h3 _ _ hq⟩)

theorem Qw (h:q.norm ρ w):WC P n .skip q ρ w:=QZl ⟨ρ,rfl,h⟩
theorem Qs (h:q.ret ρ w):WC P n .ret q ρ w:=QZj ⟨ρ,rfl,h⟩
theorem Xp {i:Nat} (h:q.ex i ρ w):WC P n (.exit i) q ρ w:=QZg ⟨ρ,rfl,h⟩

theorem Qwn {x y:Code} (h:WC P n x ⟨fun ρ w=>WC P n y q ρ w,q.ex,q.ret⟩ ρ w):WC P n (.seq x y) q ρ w :=
 QZk (Qdl h fun e a w he=>by
  cases e<;>first
   | exact he
   | (obtain ⟨ρ,ha,hq⟩:=he;subst ha;exact hq))

theorem Qi {x y:Code} (h:∀ K:Env->World->Prop,(∀ ρ w,WC P n y q ρ w->K ρ w)->WC P n x ⟨K,q.ex,q.ret⟩ ρ w):WC P n (.seq x y) q ρ w :=
 Qwn (h _ fun _ _ h=>h)

theorem YD {c:Operand} {x y:Code} {b:Bool} (hc:Qm n ρ c=.bool b) (ht:b=true->WC P n x q ρ w) (hf:b=false->WC P n y q ρ w):WC P n (.cond c x y) q ρ w :=
 QZf (by rw [Qak];exact hc) ht hf

theorem QL {i:Nat} {c:Code} (h:WC P n c ⟨q.norm,fun j=>bif Eh j i then q.norm else q.ex j,q.ret⟩ ρ w):WC P n (.block i c) q ρ w :=
 QZe (Qdl h fun e a w he=>by
  cases e with
  | exit j =>
   obtain ⟨ρ,ha,hq⟩:=he;subst ha;simp only [Exit.inBlock];by_cases hj:j=i
   ·subst hj;simp only [QAo,cond_true] at hq;rw [if_pos rfl];exact ⟨ρ,rfl,hq⟩
   ·rw [if_neg hj];simp only [Qiq hj,cond_false] at hq;exact ⟨ρ,rfl,hq⟩
  | _=>exact he)

def YF {σ β:Type} (step:σ->Option (σ⊕β)):Nat->σ->Option β
 | 0,_=>none
 | k+1,s=>match step s with
  | none=>none
  | some (.inl s')=>YF step k s'
  | some (.inr o)=>some o

theorem Qwm {c:Code} {σ β:Type} {step:σ->Option (σ⊕β)} {k:Nat} {s:σ} {o:β} (I:σ->Env->World->Prop) (h:YF step k s=some o) (h0:I s ρ w)
    (round:∀ s ρ w,I s ρ w ->
      (∀ s',step s=some (.inl s')->WC P n c ⟨I s',q.ex,q.ret⟩ ρ w) /\
      (step s=some (.inr o)->WC P n c ⟨fun _ _=>False,q.ex,q.ret⟩ ρ w)):WC P n (.loop c) q ρ w:=by
  refine QZh (fun a w=>∃ k s ρ,a=act n ρ/\YF step k s=some o/\I s ρ w)
    (fun a w=>Classical.epsilon fun m=>(∃ s ρ,a=act n ρ/\YF step m s=some o/\I s ρ w)/\∀ m',m' < m->¬ ∃ s ρ,a=act n ρ/\YF step m' s=some o/\I s ρ w) ⟨k,s,ρ,rfl,h,h0⟩ ?_
  intro a w hI
  have least : ∀ a w, (∃ m, ∃ s ρ, a = act n ρ /\ YF step m s = some o /\ I s ρ w) ->
      ∃ m,(∃ s ρ,a=act n ρ/\YF step m s=some o/\I s ρ w)/\∀ m',m' < m->¬ ∃ s ρ,a=act n ρ/\YF step m' s=some o/\I s ρ w:=by
    rintro a w ⟨m,hm⟩
    induction m using Nat.strongRecOn with
    | _ m ih =>
      by_cases hex:∃ m',m' < m/\∃ s ρ,a=act n ρ/\YF step m' s=some o/\I s ρ w
      · obtain ⟨m',hlt,hm'⟩:=hex;grind
      grind
  have hl:=Classical.epsilon_spec (least a w hI);revert hl;generalize (Classical.epsilon fun m=>(∃ s ρ,a=act n ρ/\YF step m s=some o/\I s ρ w)/\∀ m',m' < m->¬ ∃ s ρ,a=act n ρ/\YF step m' s=some o/\I s ρ w)=m;rintro ⟨⟨s,ρ,rfl,hs,hI⟩,_⟩;cases m with
  | zero=>cases hs
  | succ m =>
    have hr:=round s ρ w hI;simp only [YF] at hs;split at hs
    · cases hs
    · rename_i s' hst;refine Qdl (hr.1 s' hst) fun e a' w' he=>?_;cases e<;>first
        | exact he
        | skip
      obtain ⟨ρ',rfl,hI'⟩:=he;have hex:∃ m,∃ s ρ,act n ρ'=act n ρ/\YF step m s=some o/\I s ρ w':=⟨m,s',ρ',rfl,hs,hI'⟩;refine ⟨⟨m,s',ρ',rfl,hs,hI'⟩,?_⟩;have hl':=Classical.epsilon_spec (least (act n ρ') w' hex)
      grind
    · rename_i o' hst;cases hs;exact Qdl (hr.2 hst) fun e a' w' he=>by
        cases e<;>first
          | exact he
          | (obtain ⟨_,_,hf⟩:=he;grind)

/-! ### Operations -/

def effR (P:Program) [JD P] (K:Value->World->Prop):Result Next->Prop
 | .ok (.value v) w'=>K v w'
 | .ok .skip w'=>K undef w'
 | .ok (.enter f args) w'=>CallsJ (JD.j (P:=P)) f args w' K
 | _=>False
def Eff (P:Program) [JD P] (o:Oper) (n:Nat) (ρ:Env) (w:World) (K:Value->World->Prop):Prop :=
 Fr P (execOp (Qm n ρ) o) w/\((∃ v,(∀ w1,Rel w w1->(execOp (Qm n ρ) o).run P w1=.ok (.value v) w1)/\K v w)\/∀ w1,Rel w w1->effR P K ((execOp (Qm n ρ) o).run P w1))

def XL (ops:Array Oper) (o:Oper) (n:Nat) (ρ:Env):Bool:=Region.wanted o (yielded ops (act n ρ).tmps)

def Stp (P:Program) [JD P] (n:Nat) (ops:Array Oper) (o:Oper) (ρ:Env) (w:World) (K:Env->World->Prop):Prop :=
 if XL ops o n ρ then Eff P o n ρ w (fun v w'=>K (Xn ρ o.dst v) w') else K (Xn ρ o.dst undef) w

def T0 (P:Program) [JD P] (n:Nat) (ops:Array Oper) (K:Env->World->Prop):List Oper->Env->World->Prop
 | [],ρ,w=>K ρ w
 | o::os,ρ,w=>Stp P n ops o ρ w (T0 P n ops K os)

theorem effR.mono {K K':Value->World->Prop} (hm:∀ v w',K v w'->K' v w') {r:Result Next} (h:effR P K r):effR P K' r:=by
 cases r with
 | ok x w'=>cases x<;>first | exact hm _ _ h | exact CallsJ.mono h hm | exact h
 | halt x w'=>exact h
theorem Eff.mono {o:Oper} {K K':Value->World->Prop} (h:Eff P o n ρ w K) (hm:∀ v w',K v w'->K' v w'):Eff P o n ρ w K' :=
 ⟨h.1,h.2.imp (fun ⟨v,h1,h2⟩=>⟨v,h1,hm _ _ h2⟩) (fun h w1 r=>(h w1 r).mono hm)⟩

theorem Stp.toOp {ops:Array Oper} {i:Nat} {o:Oper} {K:Env->World->Prop} {K':Act->World->Prop} (hi:ops[i]?=some o) (h:Stp P n ops o ρ w K)
  (hK:∀ ρ w,K ρ w->K' (act n ρ) w):Zz (JD.j (P:=P)) ops i K' (act n ρ) w:=by
 unfold Stp XL at h;simp only [Zz,hi];split
 ·rename_i hw;rw [if_pos hw] at h;rw [Qak];refine ⟨h.1,h.2.imp (fun ⟨v,h1,h2⟩=>⟨v,h1,by grind [JA]⟩) (fun h w1 r=>?_)⟩;have h1:=h w1 r;generalize (execOp (Qm n ρ) o).run P w1=x at h1
  match x,h1 with
  | .ok (.value v) w',h1=>show K' ((act n ρ).put o.dst v) w';rw [JA];exact hK _ _ h1
  | .ok .skip w',h1=>show K' ((act n ρ).put o.dst undef) w';rw [JA];exact hK _ _ h1
  | .ok (.enter f args) w',h1=>exact CallsJ.mono h1 fun v w'' hv=>by grind [JA]
 simp_all [if_neg,JA]

theorem T0.toOps {ops:List Oper} {K:Env->World->Prop} {Q:Exit->Act->World->Prop} (hK:∀ ρ w,K ρ w->Q .normal (act n ρ) w) :
  ∀ (m k:Nat) (ρ:Env) (w:World),k+m=ops.length->T0 P n ops.toArray K (ops.drop k) ρ w->Qef (JD.j (P:=P)) ops.toArray (List.range' k m) Q (act n ρ) w
 | 0,k,ρ,w,hk,h=>by
  rw [Eu (by omega)] at h;exact Qtq (hK ρ w h)
 | m+1,k,ρ,w,hk,h=>by
  have hlt:k < ops.length:=by omega
  rw [List.drop_eq_getElem_cons hlt] at h;rw [List.range'_succ];exact QBv (Stp.toOp (by simp [hlt]) h fun ρ w h'=>T0.toOps hK m (k+1) ρ w (by omega) h')

theorem QC {id:Nat} {ops:List Oper} (h:T0 P n ops.toArray q.norm ops ρ w):WC P n (.region id ops.toArray false) q ρ w :=
 QZi (by
  have:=T0.toOps (Q:=q.Q n) (fun ρ _ h'=>⟨ρ,rfl,h'⟩) ops.length 0 ρ w (by simp) h
  grind [List.range_eq_range'])

theorem Qd {id:Nat} {ops:List Oper} {y:Code} (h:T0 P n ops.toArray (fun ρ w=>WC P n y q ρ w) ops ρ w):WC P n (.seq (.region id ops.toArray false) y) q ρ w :=
 Qwn (QC h)

/-! ### A region that draws its order -/

def Quiet (P:Program) (n:Nat) (ops:Array Oper) (S:World->Prop) (o:Oper) (ρ:Env) (v:Value):Prop :=
 (XL ops o n ρ=true/\∀ w,S w->Fr P (execOp (Qm n ρ) o) w/\∀ w1,Rel w w1->(execOp (Qm n ρ) o).run P w1=.ok (.value v) w1)\/(XL ops o n ρ=false/\v=undef)

def TS (P:Program) [JD P] (n:Nat) (ops:List Oper) (S:World->Prop) (Kt:Env->World->Prop):List (Nat×Bool)->Env->World->Prop
 | [],ρ,w=>Kt ρ w
 | (i,false)::rest,ρ,w=>∃ o v,ops[i]?=some o/\Quiet P n ops.toArray S o ρ v/\TS P n ops S Kt rest (Xn ρ o.dst v) w
 | (i,true)::rest,ρ,w=>∃ o,ops[i]?=some o/\Stp P n ops.toArray o ρ w (fun ρ' w'=>S w'/\TS P n ops S Kt rest ρ' w')

def TT (P:Program) [JD P] (n:Nat) (ops:List Oper) (K:Env->World->Prop):List Nat->Env->World->Prop
 | [],ρ,w=>K ρ w
 | i::rest,ρ,w=>∃ o,ops[i]?=some o/\Stp P n ops.toArray o ρ w (TT P n ops K rest)

def Qgl (ops:Array Oper):List Nat->Array Bool->Bool
 | [],listed=>(Region.ready .any ops listed).isEmpty
 | i::rest,listed=>Region.ready .any ops listed == [i]&&Qgl ops rest (listed.setIfInBounds i true)

def Qhl (ops:Array Oper) (m:Nat) (tail:List Nat):List (Nat×Bool)->Array Bool->Bool
  | [],listed=>Qgl ops tail listed
  | (i, e) :: rest, listed => Ec i m && (if e then Region.ready .any ops listed == [i] else Region.free .any ops listed i && (Region.ready .any ops listed).contains i) &&
      Qhl ops m tail rest (listed.setIfInBounds i true)

def Qdf (ops:Array Oper):Nat->Nat->Nat->Bool
 | 0,_,_=>false
 | f+1,j,i=>match ops[j]? with
  | some o=>o.after.any (fun e=>Region.binds .any e&&e.on == i)||o.after.any (fun e=>Region.binds .any e&&Qdf ops f e.on i)
  | none=>false

def Qkd (ops:Array Oper) (m:Nat):Bool :=
 (Eb ops.size).all fun j=>Ec j m||(Eb m).all fun i=>Qdf ops ops.size j i

def Closed (ops:Array Oper) (listed:Array Bool):Prop:=∀ j oj,ops[j]?=some oj->listed.getD j false=true->∀ e∈oj.after,Region.binds .any e=true->listed.getD e.on false=true

def J6 (listed:Array Bool) (m:Nat):Nat:=((Eb m).filter fun i=>!listed.getD i true).length

def Qyb (ops:Array Oper) (m:Nat) (body:List (Nat×Bool)) (tail:List Nat):Bool :=
 Region.noSelect ops&&Qkd ops m&&EB m ops.size&&Eh body.length m&&Eh (m+tail.length) ops.size&&Qhl ops m tail body (Ei ops.size false)

def YldJ (P:Program) (ops:Array Oper) (S:World->Prop) (o:Oper) (v:Value) (a:Act):Prop :=
 (Region.wanted o (yielded ops a.tmps)=true/\∀ w,S w->Fr P (execOp a.eval o) w/\∀ w1,Rel w w1->(execOp a.eval o).run P w1=.ok (.value v) w1)\/(Region.wanted o (yielded ops a.tmps)=false/\v=undef)
theorem YldJ.of_same {ops:Array Oper} {S:World->Prop} {o:Oper} {v:Value} {a a':Act} (hy:YldJ P ops S o v a) (he:execOp a'.eval o=execOp a.eval o) (hw:Region.wanted o (yielded ops a'.tmps)=Region.wanted o (yielded ops a.tmps)):YldJ P ops S o v a':=by
 grind [YldJ]
theorem Quiet.yields {ops:Array Oper} {S:World->Prop} {o:Oper} {v:Value} (h:Quiet P n ops S o ρ v):YldJ P ops S o v (act n ρ):=by
 grind [Qak,YldJ,Quiet,XL]
theorem YldJ.op {ops:Array Oper} {S:World->Prop} {i:Nat} {o:Oper} {v:Value} {a:Act} {w:World} {K:Act->World->Prop} (hy:YldJ P ops S o v a) (hi:ops[i]?=some o) (hS:S w) (h:K (a.put o.dst v) w):Zz (JD.j (P:=P)) ops i K a w:=by
 simp only [Zz,hi];rcases hy with ⟨hw,hv⟩ | ⟨hw,rfl⟩
 ·grind
 simp_all
theorem QBt {ops:Array Oper} {S:World->Prop} {j:Nat} {oi oj:Oper} {v:Value} (hj:ops[j]?=some oj) (hap:oi.apart ops oj=true) (hsi:∀ cs b,oi.op≠.select cs b) (hsj:∀ cs b,oj.op≠.select cs b)
  {K:Act->World->Prop} {a:Act} {w:World} (hy:YldJ P ops S oi v a) (h:Zz (JD.j (P:=P)) ops j K (a.put oi.dst v) w):Zz (JD.j (P:=P)) ops j (fun a' w'=>YldJ P ops S oi v a'/\K (a'.put oi.dst v) w') a w:=by
 obtain ⟨h1,h2,h3⟩:=Oper.apart_spec hap;have keep:∀ (a:Act),YldJ P ops S oi v a->∀ u,YldJ P ops S oi v (a.put oj.dst u):=fun a hy u=>hy.of_same (execOp_put oi hsi a oj.dst u h3) (wanted_put oi a oj.dst u h3)
 unfold Zz at *
 simp only [hj] at *
 rw [wanted_put oj a oi.dst v h1] at h;split
 ·rename_i hw;simp only [hw,if_true] at h;rw [execOp_put oj hsj a oi.dst v h1] at h;refine ⟨h.1,h.2.imp (fun ⟨u,h4,h5⟩=>⟨u,h4,keep a hy u,by grind [Act.put_comm]⟩) (fun h w1 r=>?_)⟩;have h6:=h w1 r;generalize (execOp a.eval oj).run P w1=x at h6
  match x,h6 with
  | .ok (.value u) w',h6=>exact ⟨keep a hy u,by rw [<-Act.put_comm a v u h2];exact h6⟩
  | .ok .skip w',h6=>exact ⟨keep a hy _,by rw [<-Act.put_comm a v undef h2];exact h6⟩
  | .ok (.enter f args) w',h6=>exact CallsJ.mono h6 fun u w'' hv=>⟨keep a hy u,by grind [Act.put_comm]⟩
 grind [Act.put_comm,undef]

def Qdu (P:Program) [JD P] (ops:Array Oper) (S:World->Prop) (Kt:Array Bool->Act->World->Prop):Nat->Array Bool->Act->World->Prop
 | 0,listed,a,w=>Kt listed a w
 | fuel+1,listed,a,w=>Region.ready .any ops listed≠[]/\∀ i∈Region.ready .any ops listed,Zz (JD.j (P:=P)) ops i (fun a' w'=>S w'/\Qdu P ops S Kt fuel (listed.setIfInBounds i true) a' w') a w

theorem QEu {listed:Array Bool} {m i j:Nat} (hi:i < m) (hj:j < m) (hne:i≠j) (h1:listed.getD i true=false) (h2:listed.getD j true=false):2<=J6 listed m:=by
 unfold J6;have hsub:[i,j].Sublist ((Eb m).filter fun i=>!listed.getD i true)\/[j,i].Sublist ((Eb m).filter fun i=>!listed.getD i true):=by
  have hs:((Eb m).filter fun i=>!listed.getD i true).Pairwise (· < ·):=List.Pairwise.filter _ List.pairwise_lt_range;have hmi:i∈(Eb m).filter fun i=>!listed.getD i true:=by simp_all
  have hmj:j∈(Eb m).filter fun i=>!listed.getD i true:=by simp_all
  revert hs hmi hmj;generalize (Eb m).filter (fun i=>!listed.getD i true)=l;intro hs hmi hmj
  induction l with
  | nil=>cases hmi
  | cons x xs ih =>
   grind
 grind

theorem JP {listed:Array Bool} {m i:Nat} (hi:i < m) (h1:listed.getD i true=false):J6 listed m=J6 (listed.setIfInBounds i true) m+1:=by
 unfold J6;have hil:i < listed.size:=by
  grind
 have key:∀ l:List Nat,l.Nodup->i∈l->(l.filter fun k=>!listed.getD k true).length=(l.filter fun k=>!(listed.setIfInBounds i true).getD k true).length+1:=by
  intro l
  induction l with
  | nil=>simp
  | cons x xs ih =>
   intro hnd hmem;have hnd':=List.nodup_cons.1 hnd;by_cases hx:x=i
   ·subst hx;have e1:(listed.setIfInBounds x true).getD x true=true:=by simp
    have e2:xs.filter (fun k=>!listed.getD k true)=xs.filter (fun k=>!(listed.setIfInBounds x true).getD k true):=by
     apply List.filter_congr;intro k hk;have:x≠k:=fun e=>hnd'.1 (e▸hk)
     simp_all
    simp_all
   ·have hm:i∈xs:=by grind
    have:=ih hnd'.2 hm;have e:(listed.setIfInBounds i true).getD x true=listed.getD x true:=getD_set_ne true (Ne.symm hx)
    grind
 grind

theorem Qsv {ops:Array Oper} {listed:Array Bool} (hc:Closed ops listed):∀ (f j i:Nat) (oj:Oper),ops[j]?=some oj->(∀ e∈oj.after,Region.binds .any e=true->listed.getD e.on false=true)->Qdf ops f j i=true->listed.getD i false=true
 | 0,_,_,_,_,_,h=>by cases h
 | f+1,j,i,oj,hj,hall,h=>by
  simp only [Qdf,hj,Bool.or_eq_true] at h;rcases h with h | h
  ·grind
  ·obtain ⟨e,he,hb⟩:=Array.any_eq_true'.1 h;simp only [Eg] at hb;have hl:=hall e he hb.1;cases ho:ops[e.on]? with
   | none =>
    have h2:=hb.2;cases f with
    | zero=>cases h2
    | succ f=>grind [Qdf]
   | some o'=>exact Qsv hc f e.on i o' ho (hc _ _ ho hl) hb.2

theorem Closed.none (ops:Array Oper) (k:Nat):Closed ops (Ei k false):=fun j oj _ h=>by
 simp_all [ED]

theorem Closed.set {ops:Array Oper} {listed:Array Bool} {j:Nat} (hc:Closed ops listed) (hj:j∈Region.ready .any ops listed):Closed ops (listed.setIfInBounds j true):=fun k ok hk hl e he hb=>by
 obtain ⟨_,oj,hoj,hall⟩:=mem_ready.1 hj;by_cases hjk:j=k
 ·grind [getD_set_true]
 ·rw [getD_set_ne false hjk] at hl;exact getD_set_true (hc k ok hk hl e he hb)

theorem QEz {ops:Array Oper} {m:Nat} (h:Qkd ops m=true) {listed:Array Bool} (hc:Closed ops listed) {j i:Nat} (hj:j∈Region.ready .any ops listed) (hi:i < m) (hu:listed.getD i true=false) (his:i < listed.size):j < m:=by
 rcases Ep j m with hlt | hge
 ·exact hlt
 ·exfalso;obtain ⟨hju,oj,hoj,hall⟩:=mem_ready.1 hj;have hjs:j < ops.size:=(Em.1 hoj).1;simp only [Qkd,List.all_eq_true,List.mem_range] at h;have h1:=h j hjs;simp only [QAp hge,Bool.false_or,List.all_eq_true,List.mem_range] at h1;have h2:=Qsv hc _ _ _ _ hoj hall (h1 i hi);simp_all

theorem QGk {ops:Array Oper} {S:World->Prop} {Kt:Array Bool->Act->World->Prop} {m i:Nat} {oi:Oper} {v:Value} (hi:ops[i]?=some oi) (him:i < m) (hw:Qkd ops m=true)
    (hsel:∀ (j:Nat) (o:Oper) cs b,ops[j]?=some o->o.op≠.select cs b) :
    ∀ (fuel:Nat) (listed:Array Bool) (a:Act) (w:World),listed.size=ops.size->Closed ops listed->fuel+1=J6 listed m ->
      (∀ j oj,ops[j]?=some oj->j≠i->listed.getD j true=false->(∀ e∈oj.after,Region.binds .any e=true->e.on≠i)->oi.apart ops oj=true) ->
      i∈Region.ready .any ops listed->YldJ P ops S oi v a->S w ->
      Qdu P ops S Kt fuel (listed.setIfInBounds i true) (a.put oi.dst v) w->Qdu P ops S Kt (fuel+1) listed a w:=by
  intro fuel
  induction fuel with
  | zero =>
    intro listed a w hls hcl hcnt _ hr hy hS H;refine ⟨fun h=>(by simp_all),fun j hj=>?_⟩;by_cases hji:j=i
    · subst hji;exact hy.op hi hS ⟨hS,H⟩
    · exfalso;have hiu:=(mem_ready.1 hr).1;have hjm:j < m:=QEz hw hcl hj him (by trivial) (by grind)
      grind [QEu,listed,mem_ready]
  | succ fuel ih =>
    intro listed a w hls hcl hcnt hfree hr hy hS H;refine ⟨fun h=>(by simp_all),fun j hj=>?_⟩;by_cases hji:j=i
    · subst hji;exact hy.op hi hS ⟨hS,H⟩
    · have hiu:=(mem_ready.1 hr).1;have hjm:j < m:=QEz hw hcl hj him (by trivial) (by grind);have h1:=H.2 j (ready_mono hj hji);obtain ⟨hjun,oj,hoj,hall⟩:=mem_ready.1 hj;have hnot:∀ e∈oj.after,Region.binds .any e=true->e.on≠i:=fun e he hb heq=>by
        grind
      have h2:=QBt hoj (hfree j oj hoj hji hjun hnot) (fun cs b=>hsel i oi cs b hi) (fun cs b=>hsel j oj cs b hoj) hy h1
      have hfree' : ∀ k ok, ops[k]? = some ok -> k ≠ i -> (listed.setIfInBounds j true).getD k true = false ->
          (∀ e∈ok.after,Region.binds .any e=true->e.on≠i)->oi.apart ops ok=true:=fun k ok hk hki hun hno=>by
        refine hfree k ok hk hki ?_ hno;by_cases hjk:j=k
        · simp_all
        simp_all
      refine Qni (fun a' w' h3=>⟨h3.2.1,ih (listed.setIfInBounds j true) a' w' (by grind) (hcl.set hj) (by grind [JP,listed]) hfree' (ready_mono hr (Ne.symm hji)) h3.1 h3.2.1 ?_⟩) h2
      grind [Array.setIfInBounds_comm]

theorem Qvu (k m:Nat) (h:m<=k):J6 (Ei k false) m=m:=by
 unfold J6;rw [List.filter_eq_self.2]
 ·simp
 ·intro a ha;have:a < k:=Ed (by grind) h;simp_all

/-! ### Functions -/

def Qpm (P:Program) (ρ:Env) (w:World) (r:ResultVar) (v:Value):Prop :=
 match r with
 | .tmp t=>ρ t=v
 | .cell a t=>∃ ad,ρ a=.pointer (some ad)/\∀ w1,Rel w w1->(loadVar t ad).run P w1=.ok v w1

def JU (P:Program) (ρ:Env) (w:World):List ResultVar->List Value->Prop
 | [],[]=>True
 | r::rs,v::vs=>Qpm P ρ w r v/\JU P ρ w rs vs
 | _,_=>False

def Y3:List ResultVar->Nat->Bool
 | [],_=>true
 | .tmp t::rs,n=>Ec t n&&Y3 rs n
 | .cell a _::rs,n=>Ec a n&&Y3 rs n

theorem Qrh {t:Nat} (h:Ec t n=true):(act n ρ).tmps.getD t undef=ρ t:=by
 simp_all [act,ED,Nat.blt_eq]

def Jn (vs:List Value):Value:=match vs with | [v]=>v | vs=>.tuple vs.toArray

def Qda (tmps:Array Value):ResultVar->Sem Value
 | .tmp t=>pure (tmps.getD t undef)
 | .cell a t=>do loadVar t (<-asAddr (tmps.getD a undef))

theorem QCi (fn:Func) (tmps:Array Value):results fn tmps=(do let vs <-fn.results.mapM (Qda tmps);pure (if h:vs.size=1 then vs[0] else .tuple vs)):=by
 rfl

theorem QUz {r:ResultVar} {v:Value} {w1:World} (hw:Rel w w1) (hm:Y3 [r] n=true) (h:Qpm P ρ w r v):(Qda (act n ρ).tmps r).run P w1=.ok v w1:=by
 cases r with
 | tmp t =>
  simp only [Y3,Ef] at hm;have h:ρ t=v:=h
  grind [Qda,Qrh,Sem.run_pure]
 | cell a t =>
  simp only [Y3,Ef] at hm;obtain ⟨ad,h1,h3⟩:=h
  grind [Qda,Qrh,asAddr]

theorem Qjf {fn:Func} {rs:List ResultVar} {vs:List Value} (hr:fn.results=rs.toArray) (hm:Y3 rs n=true) {w1:World} (hw:Rel w w1) (h:JU P ρ w rs vs):(results fn (act n ρ).tmps).run P w1=.ok (Jn vs) w1:=by
 have key:∀ (rs:List ResultVar) (vs:List Value),Y3 rs n=true->JU P ρ w rs vs->(rs.mapM (Qda (act n ρ).tmps)).run P w1=.ok vs w1:=by
  intro rs
  induction rs with
  | nil=>intro vs _ h;cases vs with | nil=>rfl | cons v vs=>exact h.elim
  | cons r rs ih =>
   intro vs hm h;cases vs with
   | nil=>exact h.elim
   | cons v vs =>
    obtain ⟨h1,h2⟩:=h;have hm1:Y3 [r] n=true/\Y3 rs n=true:=by
     cases r<;>simpa only [Y3,Eg,Ef] using hm
    simp only [Ew,Sem.run_bind,QUz hw hm1.1 h1,ih vs hm1.2 h2,Result.andThen,Sem.run_pure]
 have k:=key rs vs hm h;rw [QCi,hr,List.mapM_toArray];simp only [map_eq_pure_bind,Sem.run_bind,k,Result.andThen,Sem.run_pure];cases vs with
 | nil=>simp [Jn]
 | cons v vs=>cases vs<;>simp [Jn]

theorem QXp {r:ResultVar} {v:Value} (hm:Y3 [r] n=true) (h:Qpm P ρ w r v):Tame P (Qda (act n ρ).tmps r):=by
 cases r with
 | tmp t=>exact Tame.pure _
 | cell a t =>
  simp only [Y3,Ef] at hm;obtain ⟨ad,h1,h3⟩:=h
  grind [QEn,Qda,Qrh,asAddr]
theorem Qkb {fn:Func} {rs:List ResultVar} {vs:List Value} (hr:fn.results=rs.toArray) (hm:Y3 rs n=true) (h:JU P ρ w rs vs):Tame P (results fn (act n ρ).tmps):=by
 have key:∀ (rs:List ResultVar) (vs:List Value),Y3 rs n=true->JU P ρ w rs vs->Tame P (rs.mapM (Qda (act n ρ).tmps)):=by
  intro rs
  induction rs with
  | nil=>intro vs _ h;exact Tame.pure _
  | cons r rs ih =>
   intro vs hm h;cases vs with
   | nil=>exact h.elim
   | cons v vs =>
    obtain ⟨h1,h2⟩:=h;have hm1:Y3 [r] n=true/\Y3 rs n=true:=by
     cases r<;>simpa only [Y3,Eg,Ef] using hm
    rw [Ew];exact .bnd (QXp hm1.1 h1) fun a=>.bnd (ih vs hm1.2 h2) fun b=>.pure _
 rw [QCi,hr,List.mapM_toArray];exact .bnd (by rw [map_eq_pure_bind];exact .bnd (key rs vs hm h) fun a=>.pure _) fun a=>.pure _

theorem QS {f:FuncId} {fn:Func} {c:Code} {args:List Value} {rs:List ResultVar} {Φ:Value->World->Prop} (hf:P.funcs[f]?=some fn) (hb:fn.body=some c) (hn:fn.ntmps=n) (hl:EB args.length n=true)
    (hr:fn.results=rs.toArray) (hm:Y3 rs n=true)
    (h:WC P n c ⟨fun _ _=>False,fun _ _ _=>False,fun ρ w=>∃ vs,JU P ρ w rs vs/\Φ (Jn vs) w⟩ (fun i=>args.getD i undef) w):CallsTo P f args w Φ:=by
  refine Qqm hf hb ?_;have hl:args.length<=n:=by simpa using hl
  rw [hn];have:=Qfi args n hl;rw [this];refine Qdl h fun e a w he=>?_;cases e<;>first
    | exact he.elim
    | (obtain ⟨_,_,hf⟩:=he;exact hf.elim)
    | (obtain ⟨ρ, rfl, vs, hv, hΦ⟩ := he
       exact ⟨rfl,Qkb hr hm hv,_,fun w1 r=>Qjf hr hm r hv,hΦ⟩)

end
end Go.Gw

end
section
namespace Go.Gw
open Go

def Qu:Value->Option Nat
 | .pointer (some a)=>some a.block
 | .slice (some a) _ _=>some a.block
 | _=>none

def Avoids (L:List Value) (b:Nat):Prop:=∀ h∈L,Qu h≠some b

structure Chg (H:List Value) (w w':World):Prop where
 os:w'.os=w.os
 tape:w'.tape=w.tape
 output:w'.output=w.output
 size:w.heap.size<=w'.heap.size
 block:∀ b,b < w.heap.size->Avoids H b->w'.heap[b]?=w.heap[b]?

abbrev Ext (w w':World):Prop:=Chg [] w w'

theorem Avoids.nil (b:Nat):Avoids [] b:=fun _ h=>by cases h
theorem Avoids.mono {L L':List Value} {b:Nat} (h:Avoids L b) (hs:∀ x∈L',x∈L):Avoids L' b:=fun x hx=>h x (hs x hx)
theorem Avoids.cons {L:List Value} {b:Nat} {v:Value} (h:Avoids L b) (hv:Qu v≠some b):Avoids (v::L) b:=fun x hx=>by
 rcases List.mem_cons.1 hx with rfl | hx
 ·exact hv
 ·exact h x hx

theorem Chg.refl (H:List Value) (w:World):Chg H w w:=⟨rfl,rfl,rfl,Ek _,fun _ _ _=>rfl⟩
theorem Chg.trans {H:List Value} {a b c:World} (h:Chg H a b) (k:Chg H b c):Chg H a c :=
 ⟨k.os.trans h.os,k.tape.trans h.tape,k.output.trans h.output,Er h.size k.size,fun i hi hA=>(k.block i (Ed hi h.size) hA).trans (h.block i hi hA)⟩
theorem Chg.mono {H H':List Value} {w w':World} (h:Chg H w w') (hs:∀ x∈H,x∈H'):Chg H' w w':=⟨h.os,h.tape,h.output,h.size,fun b hb hA=>h.block b hb (hA.mono hs)⟩
theorem Chg.fresh {H:List Value} {a b c:World} (h:Ext a b) (k:Chg H b c) (hf:∀ x∈H,∀ n,Qu x=some n->a.heap.size<=n):Ext a c :=
 ⟨k.os.trans h.os,k.tape.trans h.tape,k.output.trans h.output,Er h.size k.size,fun i hi _=>(k.block i (Ed hi h.size) (fun x hx e=>by grind)).trans (h.block i hi (Avoids.nil _))⟩

theorem Ext.drew (w:World):Ext w { w with drawn:=w.drawn+1 }:=⟨rfl,rfl,rfl,Ek _,fun _ _ _=>rfl⟩
theorem Ext.alloc (w:World) (o:Obj):Ext w { w with heap:=w.heap.push o } :=
 ⟨rfl,rfl,rfl,by simp,fun b hb _=>by grind⟩
theorem Ext.below {w w':World} (h:Ext w w'):Go.RowKit.Below w.heap.size w w':=⟨h.os,h.tape,h.output,h.size,fun k hk=>h.block k hk (Avoids.nil _)⟩
theorem Chg.of_grown {w w':World} {v:Value} (h:w.grownBy w' v.ownBlock):Chg [v] w w' :=
 ⟨h.os,h.tape,h.output,h.size,fun b hb hA=>h.block b hb (fun e=>by
  have:=hA v (by simp);cases v<;>simp [Value.ownBlock] at e
  grind [Qu])⟩

theorem ZX {w:World} {b:Nat} {o:Obj} (h:w.heap[b]?=some o):b < w.heap.size:=(Em.1 h).1

theorem Rel.ext {w w1:World} (h:Rel w w1):Ext w w1:=⟨h.os,h.tape,h.output,h.size,fun b hb _=>h.block b hb⟩

/-! ### A step: handles L become L' -/
structure Stepp (L:List Value) (w:World) (L':List Value) (w':World):Prop where
 keeps:∀ {b:Nat} {cs:Array Value} {e:TypeId} {fz:Nat×Nat},w.heap[b]?=some (.cells cs e fz)->Avoids L b->(∃ fz',w'.heap[b]?=some (.cells cs e fz'))/\Avoids L' b

theorem Stepp.of {L L':List Value} {w w':World} (chg:Chg L w w') (new:∀ x∈L',∀ b,Qu x=some b->¬ Avoids L b\/w.heap.size<=b):Stepp L w L' w' :=
 ⟨fun {b cs e fz} h hA=>⟨⟨fz,(chg.block b (ZX h) hA).trans h⟩,fun x hx e=>by
  grind⟩⟩

theorem Qed {L:List Value} {x:Value} {b:Nat} (hx:x∈L) (e:Qu x=some b):¬ Avoids L b:=fun h=>h x hx e

theorem Stepp.ext {L:List Value} {w w':World} (h:Ext w w'):Stepp L w L w':=.of (h.mono (fun _ h=>by cases h)) fun _ hx _ e=>.inl (Qed hx e)
theorem Stepp.sub {L L':List Value} (w:World) (hs:∀ x∈L',x∈L):Stepp L w L' w:=.of (Chg.refl _ _) fun _ hx _ e=>.inl (Qed (hs _ hx) e)
theorem Stepp.add {L:List Value} {w w':World} (x:Value) (h:Ext w w') (hx:∀ b,Qu x=some b->w.heap.size<=b):Stepp L w (x::L) w' :=
 .of (h.mono (fun _ h=>by cases h)) fun y hy b e=>by
  grind [Qed]
theorem Qj {L:List Value} {w w':World} {x:Value} (h:Chg [x] w w') (hx:x∈L):Stepp L w L w' :=
 .of (h.mono (fun y hy=>by simp_all)) fun _ hx _ e=>.inl (Qed hx e)
theorem Stepp.swap {L:List Value} {w w':World} {v v':Value} (h:Chg [v] w w') (hv:∀ b,Qu v'=some b->Qu v=some b\/w.heap.size<=b):Stepp (v::L) w (v'::L) w' :=
 .of (h.mono (fun y hy=>by simp_all)) fun y hy b e=>by
  grind [Qed,Ej,El]
theorem Stepp.trans {L L1 L':List Value} {w w1 w':World} (s:Stepp L w L1 w1) (k:Stepp L1 w1 L' w'):Stepp L w L' w' :=
 ⟨fun h hA=>by
  obtain ⟨⟨fz,h1⟩,h2⟩:=s.keeps h hA;exact k.keeps h1 h2⟩

/-! ### Readings -/
class Rep (α:Type) where
 n:Nat
 rd:List Value->World->List Value->α->Prop
 len:∀ {L w cs d},rd L w cs d->cs.length=n
 one:∀ {L w cs d},rd L w cs d->∀ u∈cs,u.oneCell'=true
 step:∀ {L w L' w' cs d},Stepp L w L' w'->rd L w cs d->rd L' w' cs d

instance:Rep Int:=⟨1,fun _ _ cs d=>cs=[.int .i64 d],fun h=>by subst h;rfl,fun h=>by grind [Value.oneCell'],fun _ h=>h⟩
instance:Rep Bool:=⟨1,fun _ _ cs d=>cs=[.bool d],fun h=>by subst h;rfl,fun h=>by grind [Value.oneCell'],fun _ h=>h⟩
instance:Rep ByteArray:=⟨1,fun _ _ cs d=>cs=[.string d],fun h=>by subst h;rfl,fun h=>by grind [Value.oneCell'],fun _ h=>h⟩

def Elems {α:Type} [Rep α] (L:List Value) (w:World) (cells:List Value) (xs:List α):Prop :=
 cells.length=xs.length * Rep.n α/\∀ i x,xs[i]?=some x->Rep.rd L w ((cells.drop (i * Rep.n α)).take (Rep.n α)) x

theorem Elems.step {α:Type} [Rep α] {L L':List Value} {w w':World} {cells:List Value} {xs:List α} (s:Stepp L w L' w') (h:Elems L w cells xs):Elems L' w' cells xs :=
 ⟨h.1,fun i x hx=>Rep.step s (h.2 i x hx)⟩

theorem Elems.nil {α:Type} [Rep α] {L:List Value} {w:World}:Elems L w [] ([]:List α):=⟨by simp,fun i x h=>by simp at h⟩

theorem Elems.append {α:Type} [Rep α] {L:List Value} {w:World} {c1 c2:List Value} {xs ys:List α} (h1:Elems L w c1 xs) (h2:Elems L w c2 ys):Elems L w (c1++c2) (xs++ys):=by
  refine ⟨by simp [h1.1,h2.1,Ev],fun i x hx=>?_⟩;by_cases hi:i < xs.length
  · rw [List.getElem?_append_left hi] at hx;have hle:i * Rep.n α+Rep.n α<=c1.length:=by
      rw [h1.1,<-EA];exact Ea _ hi
    rw [List.drop_append_of_le_length (by omega),List.take_append_of_le_length (by simp;omega)];exact h1.2 i x hx
  · have hi:=Eo hi;rw [List.getElem?_append_right hi] at hx;have:=h2.2 _ x hx;rw [List.drop_append,Eu (by rw [h1.1];exact Ea _ hi),List.nil_append,h1.1,<-Nat.sub_mul];exact this

theorem Elems.one {α:Type} [Rep α] {L:List Value} {w:World} {cs:List Value} {x:α} (h:Rep.rd L w cs x):Elems L w cs [x]:=by
 refine ⟨by simp [Rep.len h],fun i y hy=>?_⟩;cases i with
 | zero=>simp at hy;subst hy;simp [<-Rep.len h];exact h
 | succ i=>simp at hy

theorem Elems.cells1 {α:Type} [Rep α] {L:List Value} {w:World} {cs:List Value} {xs:List α} (h:Elems L w cs xs):∀ u∈cs,u.oneCell'=true:=by
 intro u hu;obtain ⟨k,hk,rfl⟩:=List.getElem_of_mem hu;rcases Nat.eq_zero_or_pos (Rep.n α) with h0 | h0
 ·rw [h.1,h0] at hk;omega
 ·have hi:k / Rep.n α < xs.length:=by rw [h.1] at hk;simp_all [Nat.div_lt_of_lt_mul,Nat.mul_comm]
  have:=Rep.one (h.2 (k / Rep.n α) _ (Es hi)) (cs[k]);refine this ?_;have hm:=Nat.mod_lt k h0;have hd:=Nat.div_add_mod k (Rep.n α);rw [Nat.mul_comm] at hd;refine List.mem_of_getElem? (i:=k % Rep.n α) ?_;simp_all

def SlRd {α:Type} [Rep α] (L:List Value) (w:World) (v:Value) (xs:List α):Prop :=
 (∃ a0,v=.slice a0 0 0/\xs=[]) \/
 ∃ b off cap cur e fz,v=.slice (some ⟨b,off,none⟩) xs.length cap/\w.heap[b]?=some (.cells cur e fz)/\Avoids L b/\xs.length<=cap/\cap<=maxLen /\
  off+cap * Rep.n α<=cur.size/\Elems L w ((cur.toList.drop off).take (xs.length * Rep.n α)) xs

theorem SlRd.step {α:Type} [Rep α] {L L':List Value} {w w':World} {v:Value} {xs:List α} (s:Stepp L w L' w') (h:SlRd L w v xs):SlRd L' w' v xs:=by
 rcases h with h | ⟨b,off,cap,cur,e,fz,h1,h2,h3,h4,h5,h6,h7⟩
 ·exact .inl h
 ·obtain ⟨⟨fz',k1⟩,k2⟩:=s.keeps h2 h3;exact .inr ⟨b,off,cap,cur,e,fz',h1,k1,k2,h4,h5,h6,h7.step s⟩

theorem SlRd.nil {α:Type} [Rep α] (L:List Value) (w:World):SlRd L w (.slice none 0 0) ([]:List α):=.inl ⟨none,rfl,rfl⟩

instance {α:Type} [Rep α]:Rep (List α):=⟨1,fun L w cs xs=>∃ v,cs=[v]/\SlRd L w v xs,fun ⟨_,h,_⟩=>by subst h;rfl,
  fun ⟨v,h,hs⟩=>by
    subst h;rcases hs with ⟨_,rfl,_⟩ | ⟨b,off,cap,cur,e,fz,rfl,_⟩<;>simp [Value.oneCell'],
  fun s ⟨v,h,hs⟩=>⟨v,h,hs.step s⟩⟩

theorem SlRd.shape {α:Type} [Rep α] {L:List Value} {w:World} {v:Value} {xs:List α} (h:SlRd L w v xs):∃ a cap,v=.slice a xs.length cap/\xs.length<=maxLen:=by
 rcases h with ⟨a0,rfl,rfl⟩ | ⟨b,off,cap,cur,e,fz,rfl,_,_,h4,h5,_⟩
 ·simp
 grind

/-! ### Cells at an address -/
def At (w:World) (a:Addr) (cs:List Value):Prop:=a.spot=none/\∀ j v,cs[j]?=some v->w.cell? (a.add j)=some v

theorem YP (b o k:Nat):(Addr.add ⟨b,o,none⟩ k)=⟨b,o+k,none⟩:=by
 grind [Addr.add]
theorem Qwr {a:Addr} (h:a.spot=none):a=⟨a.block,a.off,none⟩:=by cases a;simp_all
theorem Qpu {a:Addr} (h:a.spot=none) (k:Nat):a.add k=⟨a.block,a.off+k,none⟩:=by rw [Qwr h,YP]

theorem At.ext {w w':World} {a:Addr} {cs:List Value} (e:Ext w w') (h:At w a cs):At w' a cs:=⟨h.1,fun j v hv=>by
 have:=h.2 j v hv;rw [Qpu h.1] at this ⊢;have hb:a.block < w.heap.size:=by
  grind [ZX,World.cell?]
 rw [World.cell?_of_block (w:=w) (w':=w') (a:=⟨a.block,a.off+j,none⟩) (e.block _ hb (Avoids.nil _))];exact this⟩

theorem At.drop {w:World} {a:Addr} {cs:List Value} (h:At w a cs) (k:Nat):At w (a.add k) (cs.drop k):=⟨by rw [Qpu h.1],fun j v hv=>by
 rw [List.getElem?_drop] at hv;have:=h.2 _ v hv;rw [Qpu h.1] at this ⊢
 grind [En,YP]⟩

theorem At.take {w:World} {a:Addr} {cs:List Value} (h:At w a cs) (k:Nat):At w a (cs.take k):=⟨h.1,fun j v hv=>by
 by_cases hj:j < k
 ·rw [Ee hj] at hv;exact h.2 j v hv
 grind⟩

theorem At.of_block {w:World} {b off:Nat} {cur:Array Value} {e:TypeId} {fz:Nat×Nat} {cs:List Value} (h:w.heap[b]?=some (.cells cur e fz)) (hc:∀ j v,cs[j]?=some v->cur[off+j]?=some v):At w ⟨b,off,none⟩ cs :=
 ⟨rfl,fun j v hv=>by grind [World.cell?,YP]⟩

def Box (w:World) (b:Nat) (cs:List Value) (T:TypeId):Prop:=w.heap[b]?=some (.cells cs.toArray T (0,0))

theorem Box.at {w:World} {b:Nat} {cs:List Value} {T:TypeId} (h:Box w b cs T):At w ⟨b,0,none⟩ cs:=At.of_block h (fun j v hv=>by grind)
theorem Box.lt {w:World} {b:Nat} {cs:List Value} {T:TypeId} (h:Box w b cs T):b < w.heap.size:=ZX h
theorem Box.chg {w w':World} {b:Nat} {cs:List Value} {T:TypeId} {H:List Value} (h:Box w b cs T) (c:Chg H w w') (hA:Avoids H b):Box w' b cs T:=(c.block b h.lt hA).trans h
theorem Box.ext {w w':World} {b:Nat} {cs:List Value} {T:TypeId} (h:Box w b cs T) (c:Ext w w'):Box w' b cs T:=h.chg c (Avoids.nil _)

/-! ### A slice of the call's own -/
def Own {α:Type} [Rep α] (e:TypeId) (L:List Value) (w:World) (v:Value) (xs:List α):Prop :=
 ∃ cells,w.ownsRow 0 e (Rep.n α) v xs.length cells/\Elems L w cells xs

theorem QTf (v:Value) (hv:∃ a n c,v=.slice a n c):v.ownBlock=Qu v:=by
 obtain ⟨a,n,c,rfl⟩:=hv;cases a<;>rfl

theorem Own.shape {α:Type} [Rep α] {e:TypeId} {L:List Value} {w:World} {v:Value} {xs:List α} (h:Own e L w v xs):∃ a cap,v=.slice a xs.length cap/\xs.length<=maxLen:=by
 obtain ⟨cells,⟨_,h⟩,_⟩:=h
 grind

theorem Own.nil {α:Type} [Rep α] (e:TypeId) (L:List Value) (w:World):Own e L w (.slice none 0 0) ([]:List α):=⟨[],World.ownsRow_nil w 0 e _,Elems.nil⟩

theorem Own.blk_lt {α:Type} [Rep α] {e:TypeId} {L:List Value} {w:World} {v:Value} {xs:List α} (h:Own e L w v xs) {b:Nat} (hb:Qu v=some b):b < w.heap.size:=by
 obtain ⟨a,cap,hv,_⟩:=h.shape;obtain ⟨cells,ho,_⟩:=h;exact (World.ownsRow.lt ho b (by grind [QTf])).2

theorem Own.step {α:Type} [Rep α] {e:TypeId} {L L':List Value} {w w':World} {v:Value} {xs:List α} (s:Stepp L w L' w') (h:Own e L w v xs) {H:List Value} (c:Chg H w w') (hA:∀ b,Qu v=some b->Avoids H b):Own e L' w' v xs:=by
 obtain ⟨cells,⟨h0,h⟩,hel⟩:=h;refine ⟨cells,⟨h0,?_⟩,hel.step s⟩;rcases h with h | ⟨g,cap,cur,rfl,h2,h3,h4⟩
 ·exact .inl h
 ·exact .inr ⟨g,cap,cur,rfl,h2,(c.block g (ZX h3) (hA g rfl)).trans h3,h4⟩

theorem Own.rd {α:Type} [Rep α] {e:TypeId} {L:List Value} {w:World} {v:Value} {xs:List α} (h:Own e L w v xs) (hA:∀ b,Qu v=some b->Avoids L b):SlRd L w v xs:=by
 obtain ⟨cells,⟨h0,h⟩,hel⟩:=h;rcases h with ⟨rfl,h⟩ | ⟨g,cap,cur,rfl,h2,h3,h4,h5,h6,h7⟩
 ·exact .inl ⟨none,rfl,List.length_eq_zero_iff.1 h⟩
 ·refine .inr ⟨g,0,cap,cur,e,(0,0),rfl,h3,hA g rfl,h4,h5,by omega,?_⟩;simp_all

end Go.Gw

end
section
set_option linter.unusedSectionVars false
namespace Go.Gw
open Go

section
variable {P:Program} [JD P] {n:Nat} {ρ:Env} {w:World}

def Yl (P:Program) (n:Nat) (ρ:Env) (o:Oper) (w:World) (v:Value):Prop:=Fr P (execOp (Qm n ρ) o) w/\∀ w1,Rel w w1->(execOp (Qm n ρ) o).run P w1=.ok (.value v) w1
theorem Ym {o:Oper} {v:Value} (h:∀ w es,(execOp (Qm n ρ) o).runT P w es=(.ok (.value v) w,es)):Yl P n ρ o w v:=⟨(Tame.still _ h).fr,fun w1 _=>by rw [<-Sem.runT_fst P _ w1 #[],h]⟩

def gd (g:Bool) (v:Value):Value:=bif g then v else undef
theorem Qo {g:Bool} {v:Value} (h:g=true):gd g v=v:=by subst h;rfl
theorem Qht {g:Bool} {v:Value} (h:g=false):gd g v=undef:=by subst h;rfl

theorem Qpe (ops:Array Oper) {o:Oper} (h:o.guard=none):XL ops o n ρ=true:=by simp [XL,Region.wanted,h]

theorem Qpg {ops:Array Oper} {j d:Nat} (hd:(ops[j]?).bind (·.dst)=some d) (hn:Ec d n=true):yielded ops (act n ρ).tmps j=match ρ d with | .bool b=>some b | _=>none:=by
 have hlt:d < n:=by simp_all
 simp only [yielded,hd,act,Qr];rw [Array.getElem?_ofFn]
 grind

theorem QZa {ops:Array Oper} {o:Oper} {j d:Nat} {b:Bool} (hg:o.guard=some (j,true)) (hd:(ops[j]?).bind (·.dst)=some d) (hn:Ec d n=true) (hv:ρ d=.bool b):XL ops o n ρ=b:=by
 grind [XL,Region.wanted,Qpg]
theorem Yx {ops:Array Oper} {o:Oper} {j d:Nat} {b:Bool} (hg:o.guard=some (j,false)) (hd:(ops[j]?).bind (·.dst)=some d) (hn:Ec d n=true) (hv:ρ d=.bool b):XL ops o n ρ=!b:=by
 grind [XL,Region.wanted,Qpg]
theorem ZA {ops:Array Oper} {o:Oper} {j d:Nat} {g b:Bool} (hg:o.guard=some (j,true)) (hd:(ops[j]?).bind (·.dst)=some d) (hn:Ec d n=true) (hv:ρ d=gd g (.bool b)):XL ops o n ρ=(g&&b):=by
 simp only [XL,Region.wanted,hg,Qpg hd hn,hv,gd];cases g<;>cases b<;>rfl
theorem Qag {ops:Array Oper} {o:Oper} {j d:Nat} {g b:Bool} (hg:o.guard=some (j,false)) (hd:(ops[j]?).bind (·.dst)=some d) (hn:Ec d n=true) (hv:ρ d=gd g (.bool b)):XL ops o n ρ=(g&&!b):=by
 simp only [XL,Region.wanted,hg,Qpg hd hn,hv,gd];cases g<;>cases b<;>rfl

/-! ### Stepping a region -/
section
variable {ops:Array Oper} {K:Env->World->Prop} {o:Oper} {os:List Oper}

theorem Qb (h:K ρ w):T0 P n ops K [] ρ w:=h
theorem ZQ {v:Value} (hg:o.guard=none) (hy:Yl P n ρ o w v) (h:T0 P n ops K os (Xn ρ o.dst v) w):T0 P n ops K (o::os) ρ w:=by
 simp only [T0,Stp,Qpe ops hg,if_true,Eff];exact ⟨hy.1,.inl ⟨v,hy.2,h⟩⟩
theorem Zl {v:Value} (b:Bool) (hw:XL ops o n ρ=b) (hy:b=true->Yl P n ρ o w v) (h:T0 P n ops K os (Xn ρ o.dst (gd b v)) w):T0 P n ops K (o::os) ρ w:=by
 simp only [T0,Stp,hw];cases b
 ·exact h
 ·have hy:=hy rfl;simp only [if_true,Eff];exact ⟨hy.1,.inl ⟨v,hy.2,h⟩⟩
theorem Qe (hg:o.guard=none) (h:Eff P o n ρ w (fun v w'=>T0 P n ops K os (Xn ρ o.dst v) w')):T0 P n ops K (o::os) ρ w:=by
 simp_all [T0,Stp,Qpe,if_true]
theorem Z4 {v:Value} (hw:XL ops o n ρ=true) (hy:Yl P n ρ o w v) (h:T0 P n ops K os (Xn ρ o.dst v) w):T0 P n ops K (o::os) ρ w:=by
 simp only [T0,Stp,hw,if_true,Eff];exact ⟨hy.1,.inl ⟨v,hy.2,h⟩⟩
theorem YZ (hw:XL ops o n ρ=false) (h:T0 P n ops K os (Xn ρ o.dst undef) w):T0 P n ops K (o::os) ρ w:=by
 simp_all [T0,Stp,Bool.false_eq_true,if_false]
variable {S:World->Prop} {Kt:Env->World->Prop} {i:Nat} {rest:List (Nat×Bool)} {trest:List Nat} {ol:List Oper}
theorem Qdq {v:Value} (hi:ol[i]?=some o) (hg:o.guard=none) (hy:∀ w,S w->Yl P n ρ o w v) (h:TS P n ol S Kt rest (Xn ρ o.dst v) w):TS P n ol S Kt ((i,false)::rest) ρ w :=
 ⟨o,v,hi,.inl ⟨Qpe ol.toArray hg,hy⟩,h⟩
theorem QFq (hi:ol[i]?=some o) (hg:o.guard=none) (h:Eff P o n ρ w (fun v w'=>S w'/\TS P n ol S Kt rest (Xn ρ o.dst v) w')):TS P n ol S Kt ((i,true)::rest) ρ w :=
 ⟨o,hi,by simp_all [Stp,Qpe,if_true]⟩
theorem QFr (h:Kt ρ w):TS P n ol S Kt [] ρ w:=h
theorem Qwi (b:Bool) (hw:XL ops o n ρ=b) (ht:b=true->Eff P o n ρ w (fun v w'=>T0 P n ops K os (Xn ρ o.dst v) w')) (hf:b=false->T0 P n ops K os (Xn ρ o.dst undef) w):T0 P n ops K (o::os) ρ w:=by
 grind [T0,Stp]
end

/-! ### What operations yield -/
section
variable {d:Option Nat} {t T U:TypeId} {p:String} {af:Array Edge} {gu:Option (Nat×Bool)} {x y z:Operand}

theorem QB {v:Value} (hx:Qm n ρ x=v):Yl P n ρ ⟨d,.move x,t,p,af,gu⟩ w v:=Ym fun w es=>by subst hx;rfl
theorem XY {v:Value} (hx:Qm n ρ x=v):Yl P n ρ ⟨d,.assign x,t,p,af,gu⟩ w v:=Ym fun w es=>by subst hx;rfl
theorem Q1 {ops:Array Oper} {K:Env->World->Prop} {os:List Oper} (v:Value) (hx:Qm n ρ x=v) (h:T0 P n ops K os (Xn ρ d v) w):T0 P n ops K (⟨d,.move x,t,p,af,none⟩::os) ρ w:=ZQ rfl (QB hx) h
theorem XC {ops:Array Oper} {K:Env->World->Prop} {os:List Oper} (v:Value) (hx:Qm n ρ x=v) (h:T0 P n ops K os (Xn ρ d v) w):T0 P n ops K (⟨d,.assign x,t,p,af,none⟩::os) ρ w:=ZQ rfl (XY hx) h
theorem Xg {ops:Array Oper} {K:Env->World->Prop} {os:List Oper} {e:Op} (v:Value) (hy:Yl P n ρ ⟨d,e,t,p,af,none⟩ w v) (h:T0 P n ops K os (Xn ρ d v) w):T0 P n ops K (⟨d,e,t,p,af,none⟩::os) ρ w:=ZQ rfl hy h
theorem QFy {q:Post} {id:Nat} {c:Code} (v:Value) (hx:Qm n ρ x=v) (h:WC P n c q (Xn ρ d v) w):WC P n (.seq (.region id #[⟨d,.move x,t,p,af,none⟩] false) c) q ρ w:=Qd (ops:=[⟨d,.move x,t,p,af,none⟩]) (ZQ rfl (QB hx) h)
theorem JW {q:Post} {id:Nat} {c:Code} (v:Value) (hx:Qm n ρ x=v) (h:WC P n c q (Xn ρ d v) w):WC P n (.seq (.region id #[⟨d,.assign x,t,p,af,none⟩] false) c) q ρ w:=Qd (ops:=[⟨d,.assign x,t,p,af,none⟩]) (ZQ rfl (XY hx) h)
theorem Qct {b:Bool} {v:Value} (hx:Qm n ρ x=.bool b) (hy:b=true->Qm n ρ y=v) (hz:b=false->Qm n ρ z=v):Yl P n ρ ⟨d,.pick x y z,t,p,af,gu⟩ w v:=Ym fun w es=>by
 simp_all [execOp,asBool]
theorem X1 {b c:Bool} (hx:Qm n ρ x=.bool b) (hy:b=true->Qm n ρ y=.bool c) (hz:Qm n ρ z=.bool false):Yl P n ρ ⟨d,.pick x y z,t,p,af,gu⟩ w (.bool (b&&c)) :=
 Qct hx (fun h=>by simp_all) (fun h=>by grind)
theorem Yc {b c:Bool} (hx:Qm n ρ x=.bool b) (hy:Qm n ρ y=.bool true) (hz:b=false->Qm n ρ z=.bool c):Yl P n ρ ⟨d,.pick x y z,t,p,af,gu⟩ w (.bool (b||c)) :=
 Qct hx (fun h=>by grind) (fun h=>by simp_all)

theorem Q6 {k:IntKind} {a b:Int} (hx:Qm n ρ x=.int k a) (hy:Qm n ρ y=.int k b):Yl P n ρ ⟨d,.binOp .add T x y U,t,p,af,gu⟩ w (.int k (k.wrap (a+b))):=Ym fun w es=>by
 simp [execOp,hx,hy,eqGuard,binOp,Op.intArith]
theorem Y1 {k:IntKind} {a b:Int} (hx:Qm n ρ x=.int k a) (hy:Qm n ρ y=.int k b):Yl P n ρ ⟨d,.binOp .sub T x y U,t,p,af,gu⟩ w (.int k (k.wrap (a - b))):=Ym fun w es=>by
 simp [execOp,hx,hy,eqGuard,binOp,Op.intArith]
theorem Qgv {k:IntKind} {a b:Int} (hx:Qm n ρ x=.int k a) (hy:Qm n ρ y=.int k b):Yl P n ρ ⟨d,.binOp .mul T x y U,t,p,af,gu⟩ w (.int k (k.wrap (a * b))):=Ym fun w es=>by
 simp [execOp,hx,hy,eqGuard,binOp,Op.intArith]
theorem Q0n {k:IntKind} {a b:Int} (hb:b≠0) (hx:Qm n ρ x=.int k a) (hy:Qm n ρ y=.int k b):Yl P n ρ ⟨d,.binOp .quo T x y U,t,p,af,gu⟩ w (.int k (k.wrap (a.tdiv b))):=Ym fun w es=>by
 simp_all [execOp,eqGuard,binOp,Op.intDiv]
theorem Qwh {k:IntKind} {a b:Int} (hb:b≠0) (hx:Qm n ρ x=.int k a) (hy:Qm n ρ y=.int k b):Yl P n ρ ⟨d,.binOp .rem T x y U,t,p,af,gu⟩ w (.int k (a.tmod b)):=Ym fun w es=>by
 simp_all [execOp,eqGuard,binOp,Op.intDiv]
theorem Xc {k:IntKind} {a b:Int} (hx:Qm n ρ x=.int k a) (hy:Qm n ρ y=.int k b):Yl P n ρ ⟨d,.binOp .lss T x y U,t,p,af,gu⟩ w (.bool (decide (a < b))):=Ym fun w es=>by
 simp [execOp,hx,hy,eqGuard,binOp,Op.intCmp]
theorem Jz {k:IntKind} {a b:Int} (hx:Qm n ρ x=.int k a) (hy:Qm n ρ y=.int k b):Yl P n ρ ⟨d,.binOp .leq T x y U,t,p,af,gu⟩ w (.bool (decide (a<=b))):=Ym fun w es=>by
 simp [execOp,hx,hy,eqGuard,binOp,Op.intCmp]
theorem Yy {k:IntKind} {a b:Int} (hx:Qm n ρ x=.int k a) (hy:Qm n ρ y=.int k b):Yl P n ρ ⟨d,.binOp .gtr T x y U,t,p,af,gu⟩ w (.bool (decide (b < a))):=Ym fun w es=>by
 simp [execOp,hx,hy,eqGuard,binOp,Op.intCmp]
theorem Z0 {k:IntKind} {a b:Int} (hx:Qm n ρ x=.int k a) (hy:Qm n ρ y=.int k b):Yl P n ρ ⟨d,.binOp .geq T x y U,t,p,af,gu⟩ w (.bool (decide (b<=a))):=Ym fun w es=>by
 simp [execOp,hx,hy,eqGuard,binOp,Op.intCmp]
theorem Qza (a b:Int):(a == b)=decide (a=b):=by rfl
theorem Xw {k:IntKind} {a b:Int} (hx:Qm n ρ x=.int k a) (hy:Qm n ρ y=.int k b):Yl P n ρ ⟨d,.binOp .eql T x y U,t,p,af,gu⟩ w (.bool (decide (a=b))):=Ym fun w es=>by
 simp [execOp,hx,hy,eqGuard,binOp,Op.intCmp,Qza]
theorem XF {k:IntKind} {a b:Int} (hx:Qm n ρ x=.int k a) (hy:Qm n ρ y=.int k b):Yl P n ρ ⟨d,.binOp .neq T x y U,t,p,af,gu⟩ w (.bool (!decide (a=b))):=Ym fun w es=>by
 simp [execOp,hx,hy,eqGuard,binOp,Op.intCmp,bne,Qza]
theorem Yb {b:Bool} (hx:Qm n ρ x=.bool b):Yl P n ρ ⟨d,.unOp .not T x,t,p,af,gu⟩ w (.bool (!b)):=Ym fun w es=>by
 simp [execOp,hx,Op.unary]
theorem QFe {k k':IntKind} {a:Int} (hu:P.underlying T=some (.int k')) (hv:P.underlying U=some (.int k)) (hx:Qm n ρ x=.int k' a):Yl P n ρ ⟨d,.convert T U x,t,p,af,gu⟩ w (.int k (k.wrap a)):=Ym fun w es=>by
 simp_all [execOp,convert,run_underlying,Conv.intToInt]
theorem Xd {i:Nat} {vs:Array Value} {v:Value} (hx:Qm n ρ x=.tuple vs) (hv:vs[i]?=some v):Yl P n ρ ⟨d,.extract x i,t,p,af,gu⟩ w v:=Ym fun w es=>by
 simp [execOp,hx,Instr.extract,hv]
theorem Qgu {e:TypeId} {a:Option Addr} {m c:Nat} {aT:Array TypeId} (hT:aT[0]?=some T) (hu:P.underlying T=some (.slice e)) (hx:Qm n ρ x=.slice a m c):Yl P n ρ ⟨d,.call ⟨.builtin .len,#[x],aT⟩,t,p,af,gu⟩ w (.int .i64 m):=Ym fun w es=>by
 simp [execOp,resolve,invoke,builtin,Builtin.len_,hT,hx,run_underlying hu,goInt]
theorem Zi {s:ByteArray} {aT:Array TypeId} (hT:aT[0]?=some T) (hu:P.underlying T=some .string) (hx:Qm n ρ x=.string s):Yl P n ρ ⟨d,.call ⟨.builtin .len,#[x],aT⟩,t,p,af,gu⟩ w (.int .i64 s.size):=Ym fun w es=>by
 simp [execOp,resolve,invoke,builtin,Builtin.len_,hT,hx,run_underlying hu,goInt]
theorem Q0i {k k':IntKind} {a b:Int} {aT:Array TypeId} (hx:Qm n ρ x=.int k a) (hy:Qm n ρ y=.int k' b):Yl P n ρ ⟨d,.call ⟨.builtin .max,#[x,y],aT⟩,t,p,af,gu⟩ w (.int k (if a < b then b else a)):=Ym fun w es=>by
 simp [execOp,resolve,invoke,builtin,Builtin.max_,Builtin.max2,hx,hy]
theorem QFg {k k':IntKind} {a b:Int} {aT:Array TypeId} (hx:Qm n ρ x=.int k a) (hy:Qm n ρ y=.int k' b):Yl P n ρ ⟨d,.call ⟨.builtin .min,#[x,y],aT⟩,t,p,af,gu⟩ w (.int k (if b < a then b else a)):=Ym fun w es=>by
 simp [execOp,resolve,invoke,builtin,Builtin.min_,Builtin.min2,hx,hy]
end
end
end Go.Gw

end
section
set_option linter.unusedVariables false
namespace Go.Gw
open Go Go.Conc
section
variable {P:Program} {w:World} {T:TypeId}
def YO (P:Program) (T:TypeId):Prop:=∃ dsc,P.underlying T=some dsc/\(match dsc with | .struct _ | .array _ _=>False | _=>True)
def Aggr (P:Program) (T:TypeId) (k:Nat):Prop:=∃ dsc i,P.underlying T=some dsc/\(match dsc with | .struct _ | .array _ _=>True | _=>False)/\P.info? T=some i/\i.size=k
def Xi (P:Program) (T:TypeId) (k:Nat):Prop:=∃ i,P.info? T=some i/\i.size=k

theorem YW {T k:Nat} (h:Xi P T k):(sizeOf T).run P w=.ok k w:=by
 obtain ⟨i,hi,hk⟩:=h;simp [sizeOf,typeInfo,hi,hk]

theorem QCu (h:YO P T):(isAgg T).run P w=.ok false w:=by
 obtain ⟨dsc,hd,hm⟩:=h;simp only [isAgg,Sem.run_bind,run_underlying hd,Result.andThen];cases dsc<;>simp at hm<;>rfl
theorem Que {k:Nat} (h:Aggr P T k):(isAgg T).run P w=.ok true w:=by
 obtain ⟨dsc,i,hd,hm,_⟩:=h;simp only [isAgg,Sem.run_bind,run_underlying hd,Result.andThen];cases dsc<;>simp at hm<;>rfl
theorem Aggr.size {k:Nat} (h:Aggr P T k):Xi P T k:=by obtain ⟨_,i,_,_,hi,hk⟩:=h;exact ⟨i,hi,hk⟩

theorem Xb {α β:Type} {m:Sem α} {f:α->Sem β} {a:α} {w w':World} {es es':Array Event} (h:m.runT P w es=(.ok a w',es')):(m >>= f).runT P w es=(f a).runT P w' es':=by
 simp_all
theorem Y4 {d:TypeDesc} {es:Array Event} (h:P.underlying T=some d):(underlying T).runT P w es=(.ok d w,es):=by
 simp [run_underlying h]
theorem Qje {T k:Nat} {es:Array Event} (h:Xi P T k):(sizeOf T).runT P w es=(.ok k w,es):=by
 obtain ⟨i,hi,hk⟩:=h;simp [sizeOf,typeInfo,hi,hk]
theorem Qoe {f : FuncId} {fn : Func} {c : Code} {args : Array Value} {es : Array Event} (hf : P.funcs[f]? = some fn) (hname : (fn.name == "runtime.NumGoroutine") = false) (hb : fn.body = some c) : (callFunc f args).runT P w es = (.ok (.enter f args) w, es) := by
  simp_all [callFunc]
theorem QEg (t:TypeId):Tame P (elemOf t):=by
 unfold elemOf;refine .bnd (Qaf _) fun d=>?_;split<;>first | exact .pure _ | exact YK _
theorem Qcp {α:Type} (e:RuntimeError):Tame P (runtimePanic e:Sem α):=by
 unfold runtimePanic;refine .bnd Qoy fun p=>?_;split<;>first | exact .halt _ | exact .bnd (QEg _) fun _=>.bnd (Qvp _ _) fun _=>.halt _
theorem Qov {α:Type} (k:IntKind) (x y:Int) (c:BoundsCode):Tame P (boundsPanic k x y c:Sem α):=by
 unfold boundsPanic;split
 ·exact .bnd (by rw [map_eq_pure_bind];exact .bnd (Qel _) fun _=>.pure _) fun _=>Qcp _
 grind [pure,Qcp]
theorem Qou (v:Value):Tame P (asIntOf v):=by
 unfold asIntOf;split<;>first | exact .pure _ | exact Qax _ | exact YK _
theorem QEd (v:Value):Tame P (asInt v):=.bnd (Qou v) fun _=>.pure _
theorem QXj (v:Value):Tame P (asAddr v):=by
 unfold asAddr;split<;>first | exact .pure _ | exact Qcp _ | exact YK _
theorem Qox (t:TypeId) (x y:Value):Tame P (Instr.indexAt t x y):=by
 unfold Instr.indexAt;refine .bnd (Qou _) fun _=>.bnd (Qaf _) fun _=>?_
 repeat' first
  | exact .pure _
  | exact YK _
  | exact Qax _
  | exact Qaf _
  | exact Jy _
  | exact Qoz _
  | exact Qov _ _ _ _
  | refine .bnd ?_ fun _=>?_
  | split
  | (dsimp only;split)

theorem Jk {α:Type} {c:Prop} [Decidable c] {a b:Sem α} (ha:Tame P a) (hb:Tame P b):Tame P (if c then a else b):=by
 grind
theorem Qya {α β:Type} {m:Sem α} {f:α->Sem β} (h:∀ a w es r w',((f a).runT P w es).1≠.ok r w'):∀ w es r w',((m >>= f).runT P w es).1≠.ok r w':=fun w es r w'=>by
 rw [show (m >>= f)=m.bind f from rfl,Go.Sem.runT_bind']
 grind
theorem Qvm (v:Value):Tame P (Builtin.lenOf v):=by
 unfold Builtin.lenOf;split<;>first | exact .pure _ | exact YK _
theorem Qdk (a b:Nat) (v:Value):Tame P (Builtin.firstCells a b v):=by
 unfold Builtin.firstCells;split<;>first | exact QEl _ _ | exact .pure _ | exact YK _
theorem Tame.und {α:Type} {T:TypeId} {d:TypeDesc} {f:TypeDesc->Sem α} (hu:P.underlying T=some d) (h:Tame P (f d)):Tame P (underlying T >>= f):=.same _ _ (fun _ _=>Xb (Y4 hu)) h
theorem QEc {T e:TypeId} (hu:P.underlying T=some (.slice e)) (t:TypeId) (v x:Value):Tame P (Builtin.append_ #[T,T] t #[v,x]):=by
 unfold Builtin.append_;dsimp only [List.getElem?_toArray,List.getElem?_cons_zero,List.getElem?_cons_succ];refine .und hu ?_;dsimp only;split
 ·refine .bnd (Jy _) fun size=>.und hu ?_;simp only [Bool.false_eq_true,if_false,Bool.not_false,if_true,false_or,pure_bind];refine .bnd (Qvm _) fun n=>?_;refine Jk (.bnd (Qdk _ _ _) fun new=>?_) (.bnd (Qbn _) fun i1=>Jk (.bnd (Qcp _) fun _=>?_) ?_)
  ·split<;>first | exact .bnd (Qeo _ _ _) fun _=>.pure _ | exact .pure _
  all_goals
   refine .bnd (Qbn _) fun i2=>Jk (.bnd (.doom _ (Qya fun b=>?_)) fun _=>?_) ?_
   ·simp
   all_goals exact .bnd (Qel _) fun _=>.bnd (Qbn _) fun _=>.bnd (Qjz _) fun _=>.bnd (Qdk _ _ _) fun _=>.bnd (Qdk _ _ _) fun _=>.bnd (Qep _) fun _=>.bnd (Qem _ _) fun _=>.pure _
 ·exact YK _
theorem QXn (aT:Array TypeId) (t:TypeId) (args:Array Value):Tame P (Builtin.copy_ aT t args):=by
 unfold Builtin.copy_;split
 ·refine .bnd (Qaf _) fun _=>?_;split
  ·split
   ·refine .bnd (Qvm _) fun n=>.bnd (Jy _) fun _=>.bnd (Qdk _ _ _) fun _=>?_;split<;>first | exact .bnd (Qeo _ _ _) fun _=>.pure _ | exact .pure _
   ·exact YK _
  ·exact YK _
 ·exact YK _
theorem QXl (t:TypeId) (len:Nat) (parts:Array (Nat×Value)):Tame P (Instr.buildSlice t len parts):=by
 unfold Instr.buildSlice
 repeat' first
  | exact .pure _
  | exact YK _
  | exact Qax _
  | exact Qaf _
  | exact Jy _
  | exact Qep _
  | exact Qem _ _
  | refine .bnd ?_ fun _=>?_
  | split
  | (dsimp only;split)
theorem Qvo (t:TypeId) (x y:Value):Tame P (Instr.makeSlice t x y):=by
 unfold Instr.makeSlice
 repeat' first
  | exact .pure _
  | exact YK _
  | exact Qax _
  | exact Qaf _
  | exact Jy _
  | exact Qbn _
  | exact QEd _
  | exact Qep _
  | exact Qjz _
  | exact Qel _
  | exact Qcp _
  | exact Qem _ _
  | refine .bnd ?_ fun _=>?_
  | split
  | (dsimp only;split)
theorem QXs (x:Value) (y:Nat) (c:BoundsCode):Tame P (Instr.sliceBound x y c):=by
 unfold Instr.sliceBound;exact .bnd (Qou _) fun _=>Jk (.pure _) (Qov _ _ _ _)
theorem QXt (s:Bool) (a b:Nat) (x y z:Option Value):Tame P (Instr.sliceBounds s a b x y z):=by
 unfold Instr.sliceBounds
 repeat' first
  | exact .pure _
  | exact YK _
  | exact QXs _ _ _
  | refine .bnd ?_ fun _=>?_
  | split
  | (dsimp only;split)
theorem J5 (t:TypeId) (v:Value) (x y z:Option Value):Tame P (Instr.sliceAt t v x y z):=by
 unfold Instr.sliceAt Instr.slice
 repeat' first
  | exact .pure _
  | exact YK _
  | exact Qaf _
  | exact Qoz _
  | exact QXj _
  | exact Jy _
  | exact QXt _ _ _ _ _ _
  | refine .bnd ?_ fun _=>?_
  | split
  | (dsimp only;split)
theorem QEo {α β:Type} (f:α->Sem β) (hf:∀ a,Tame P (f a)):∀ xs:List α,Tame P (xs.mapM f)
 | []=>by rw [List.mapM_nil];exact .pure _
 | x::xs=>by rw [Ew];exact .bnd (hf x) fun _=>.bnd (QEo f hf xs) fun _=>.pure _
theorem QXr {α β:Type} (f:α->Sem β) (hf:∀ a,Tame P (f a)) (xs:Array α):Tame P (xs.mapM f):=by
 rw [Array.mapM_eq_mapM_toList,map_eq_pure_bind];exact .bnd (QEo f hf _) fun _=>.pure _
theorem QEe (t:TypeId) (parts:Array (Nat×Value)):Tame P (Instr.build t parts):=by
 unfold Instr.build
 repeat' first
  | exact .pure _
  | exact YK _
  | exact Qax _
  | exact Qaf _
  | exact Jy _
  | exact Qep _
  | exact QXr _ (fun _=>.bnd (Jy _) fun _=>.pure _) _
  | refine .bnd ?_ fun _=>?_
  | split
  | (dsimp only;split)
theorem X0 {m:Sem Value} (h:Tame P m):Tame P (m >>= fun v=>Pure.pure (Next.value v):Sem Next):=.bnd h fun _=>.pure _
theorem Qvr {m:Sem Unit} (h:Tame P m):Tame P (m >>= fun _=>Pure.pure Next.skip:Sem Next):=.bnd h fun _=>.pure _

end
end Go.Gw

end
section
set_option linter.unusedSectionVars false
namespace Go.Gw
open Go

section
variable {P:Program} [JD P] {n:Nat} {ρ:Env} {w:World}
variable {d:Option Nat} {t T U:TypeId} {p:String} {af:Array Edge} {gu:Option (Nat×Bool)} {x y z:Operand}


theorem YL {o:Oper} {v:Value} (ht:Tame P (execOp (Qm n ρ) o)) (h:∀ w1,Ext w w1->(execOp (Qm n ρ) o).run P w1=.ok (.value v) w1):Yl P n ρ o w v:=⟨ht.fr,fun w1 r=>h w1 r.ext⟩
theorem Ja {o:Oper} {K:Value->World->Prop} (ht:Tame P (execOp (Qm n ρ) o)) (h:∀ w1,Ext w w1->effR P K ((execOp (Qm n ρ) o).run P w1)):Eff P o n ρ w K:=⟨ht.fr,.inr fun w1 r=>h w1 r.ext⟩
theorem Q0d {fs:Array Field} {i:Nat} {f:Field} {k:Nat} {a:Addr} (hu:P.underlying T=some (.struct fs)) (hf:fs[i]?=some f) (hs:Xi P f.type (k+1)) (hx:Qm n ρ x=.pointer (some a)) :
  Yl P n ρ ⟨d,.fieldAddr T x i,t,p,af,gu⟩ w (.pointer (some (a.add f.offset))):=Ym fun w es=>by
 refine (Xb (a:=Value.pointer (some (a.add f.offset))) (w':=w) (es':=es) ?_).trans rfl;rw [hx];refine (Xb (Y4 hu)).trans ?_;simp only [hf,Instr.sureAddr,pure_bind];refine (Xb (a:=a.add f.offset) ?_).trans rfl;exact (Xb (Qje hs)).trans rfl

theorem Qk {a:Addr} {v:Value} {cs:List Value} (hT:YO P T) (hx:Qm n ρ x=.pointer (some a)) (hat:At w a (v::cs)):Yl P n ρ ⟨d,.load T x,t,p,af,gu⟩ w v:=YL (X0 (QEk _ _)) fun w1 e1=>by
 have h0:=(At.ext e1 hat).2 0 v rfl;simp_all [execOp,Instr.loadAt,Instr.sureAddr,loadVar,QCu,Addr.add]

theorem Qwg {a:Addr} {cs:List Value} (hT:Aggr P T cs.length) (hx:Qm n ρ x=.pointer (some a)) (hat:At w a cs):Yl P n ρ ⟨d,.load T x,t,p,af,gu⟩ w (.agg cs.toArray):=YL (X0 (QEk _ _)) fun w1 e1=>by
 simp [execOp,hx,Instr.loadAt,Instr.sureAddr,loadVar,Que hT,YW hT.size,run_loadCells_list w1 a cs (At.ext e1 hat).2]

theorem QY {a:Addr} {cs:List Value} (hat:At w a cs) (hT:Aggr P T cs.length) (hx:Qm n ρ x=.pointer (some a)):Yl P n ρ ⟨d,.load T x,t,p,af,gu⟩ w (.agg cs.toArray):=Qwg hT hx hat

def ZE (v:Value) (i k:Nat):Addr:=match v with | .slice (some a) _ _=>a.add (i * k) | _=>default

def idx {α:Type} (xs:List α) (i:Int):Option α:=if 0<=i then xs[i.toNat]? else none

theorem JG {α:Type} {xs:List α} {i:Int} {x:α} (h:idx xs i=some x):0<=i/\i.toNat < xs.length/\xs[i.toNat]?=some x:=by
 grind [List.getElem?_eq_some_iff,idx]

theorem Q8 {α:Type} [Rep α] {e:TypeId} {L:List Value} {w2:World} {v:Value} {xs:List α} {k:IntKind} {i:Int} {el:α} (hu:P.underlying T=some (.slice e)) (hs:Xi P e (Rep.n α)) (hsl:SlRd L w2 v xs)
  (hel:idx xs i=some el) (hx:Qm n ρ x=v) (hy:Qm n ρ y=.int k i):Yl P n ρ ⟨d,.indexAddr T x y,t,p,af,gu⟩ w (.pointer (some (ZE v i.toNat (Rep.n α)))):=by
 obtain ⟨h0,h1,_⟩:=JG hel;rcases hsl with ⟨_,_,rfl⟩ | ⟨b,off,cap,cur,e',fz,rfl,_⟩
 ·simp at h1
 ·have h2:i < (xs.length:Int):=by omega
  exact YL (X0 (Qox _ _ _)) fun w1 _=>by simp [execOp,hx,hy,Instr.indexAt,asIntOf,run_underlying hu,h0,h2,YW hs,ZE]

theorem SlRd.at {α:Type} [Rep α] {L:List Value} {v:Value} {xs:List α} {i:Int} {el:α} (hsl:SlRd L w v xs) (hel:idx xs i=some el):∃ cs,At w (ZE v i.toNat (Rep.n α)) cs/\Rep.rd L w cs el:=by
 obtain ⟨h0,h1,h2⟩:=JG hel;rcases hsl with ⟨_,_,rfl⟩ | ⟨b,off,cap,cur,e',fz,rfl,hb,_,h4,_,h6,h7⟩
 ·simp at h1
 ·refine ⟨_,?_,h7.2 _ el h2⟩;simp only [ZE,YP];refine At.of_block hb fun j u hu=>?_
  grind

/-! ### New blocks -/
theorem QIc {v:Value} {K:Value->World->Prop} (hx:Qm n ρ x=v)
  (h:∀ b w',w.heap.size<=b->Ext w w'->Box w' b v.cells.toList T->K (.pointer (some ⟨b,0,none⟩)) w'):Eff P ⟨d,.box T x,t,p,af,gu⟩ n ρ w K:=Ja (X0 (QXk _ _)) fun w1 e1=>by
 simp only [execOp,hx];have:(Instr.box T v).run P w1=.ok (.pointer (some ⟨w1.heap.size,0,none⟩)) { w1 with heap:=w1.heap.push (.cells v.cells T (0,0)) }:=by
  rfl
 simp only [Sem.run_bind,this,Result.andThen,Sem.run_pure,effR];exact h _ _ e1.size (e1.trans (Ext.alloc ..)) (by simp [Box])

theorem QHz {z:Value} {i:TypeInfo} {K:Value->World->Prop} (hi:P.info? T=some i) (hz:i.zero=some z)
  (h:∀ b w',w.heap.size<=b->Ext w w'->Box w' b z.cells.toList T->K (.pointer (some ⟨b,0,none⟩)) w'):Eff P ⟨d,.alloc T,t,p,af,gu⟩ n ρ w K:=Ja (X0 (QXg _)) fun w1 e1=>by
 simp only [execOp];have:(Instr.alloc T true (.tuple #[])).run P w1=.ok (.pointer (some ⟨w1.heap.size,0,none⟩)) { w1 with heap:=w1.heap.push (.cells z.cells T (0,0)) }:=by
  simp [Instr.alloc,zeroValue,typeInfo,hi,hz,newVar,newRow,newObj];rfl
 simp only [Sem.run_bind,this,Result.andThen,Sem.run_pure,effR];exact h _ _ e1.size (e1.trans (Ext.alloc ..)) (by simp [Box])

/-! ### Stores -/
def YT (cs:List Value) (off:Nat):List Value->List Value
 | []=>cs
 | v::vs=>YT (cs.set off v) (off+1) vs

theorem QHj (w:World) (b off:Nat) (v:Value):Chg [.pointer (some ⟨b,0,none⟩)] w (w.setCell ⟨b,off,none⟩ v) :=
 ⟨rfl,rfl,rfl,by simp,fun k _ hA=>by
  have hne:b≠k:=fun e=>hA _ (List.mem_singleton.2 rfl) (by simp [Qu,e])
  simp [World.setCell,Ex,hne]⟩

theorem QCw (T:TypeId) (b:Nat):∀ (vs:List Value) (off i:Nat) (cs:List Value) (w:World),Box w b cs T->off+i+vs.length<=cs.length->(∀ v∈vs,v.oneCell'=true) ->
  ∃ w',(storeCells ⟨b,off,none⟩ vs i).run P w=.ok () w'/\Box w' b (YT cs (off+i) vs) T/\Chg [.pointer (some ⟨b,0,none⟩)] w w'/\w'.heap.size=w.heap.size
 | [],off,i,cs,w,hb,_,_=>⟨w,rfl,hb,Chg.refl _ _,rfl⟩
 | v::vs,off,i,cs,w,hb,hl,h1=>by
  have hlt:off+i < cs.length:=by grind
  have hc:w.cell? ⟨b,off+i,none⟩=some cs[off+i]:=by simp [World.cell?,show w.heap[b]?=_ from hb,hlt]
  have hfz:w.frozen? ⟨b,off+i,none⟩=false:=by simp [World.frozen?,show w.heap[b]?=_ from hb]
  have hbox:Box (w.setCell ⟨b,off+i,none⟩ v) b (cs.set (off+i) v) T:=by
   simp_all [Box,World.setCell,Ex,some]
  obtain ⟨w',hr,hb2,hc2,hs2⟩:=QCw T b vs off (i+1) (cs.set (off+i) v) (w.setCell ⟨b,off+i,none⟩ v) hbox (by grind) (fun u hu=>h1 u (Ej _ hu));refine ⟨w',?_,hb2,(QHj ..).trans hc2,by simp_all⟩;have hst:(store ((⟨b,off,none⟩:Addr).add i) v).run P w=.ok () (w.setCell ⟨b,off+i,none⟩ v):=by
   have:=h1 v (El ..);rw [YP];cases v<;>simp [Value.oneCell'] at this<;>simp [store,Sem.run,hc,hfz]
  grind [storeCells,Sem.run_bind,Result.andThen]

theorem QIl {v:Value} {b off:Nat} {cs:List Value} {T':TypeId} {K:Value->World->Prop} (hs:Xi P T v.cells.size) (hx:Qm n ρ x=.pointer (some ⟨b,off,none⟩)) (hy:Qm n ρ y=v)
  (hb:Box w b cs T') (hl:off+v.cells.size<=cs.length) (h1:∀ u∈v.cells.toList,u.oneCell'=true)
  (h:∀ w',Chg [.pointer (some ⟨b,0,none⟩)] w w'->Box w' b (YT cs off v.cells.toList) T'->K undef w'):Eff P ⟨d,.store T x y,t,p,af,gu⟩ n ρ w K:=Ja (Qvr (Qvq _ _ _)) fun w1 e1=>by
 obtain ⟨w',hr,hb2,hc2,_⟩:=QCw (P:=P) T' b v.cells.toList off 0 cs w1 (hb.ext e1) (by omega) h1;simp only [execOp,hx,hy];have:(Instr.storeAt T (.pointer (some ⟨b,off,none⟩)) v).run P w1=.ok () w':=by
  simp [Instr.storeAt,Instr.sureAddr,storeVar,YW hs,hr]
 simp only [Sem.run_bind,this,Result.andThen,Sem.run_pure,effR];exact h w' ((e1.mono (fun _ h=>by cases h)).trans hc2) (by trivial)

/-! ### Calls -/
theorem Qq {f : FuncId} {fn : Func} {c : Code} {xs : Array Operand} {aT : Array TypeId} {args : List Value} {K Φ : Value → World → Prop} (hf : P.funcs[f]? = some fn) (hname : (fn.name == "runtime.NumGoroutine") = false) (hb : fn.body = some c)
    (ha:(xs.map (Qm n ρ)).toList=args) (hc:CallsTo P f args w Φ) (h:∀ v w',Φ v w'->K v w'):Eff P ⟨d,.call ⟨.value (.func f),xs,aT⟩,t,p,af,gu⟩ n ρ w K:=by
  have e:xs.map (Qm n ρ)=args.toArray:=by rw [<-ha]
  have this:∀ w es,(execOp (Qm n ρ) ⟨d,.call ⟨.value (.func f),xs,aT⟩,t,p,af,gu⟩).runT P w es=(.ok (.enter f args.toArray) w,es):=fun w es=>by
    refine Eq.trans ?_ (Qoe (args:=args.toArray) hf hname hb);simp only [execOp,resolve,Deferred.ofValue,invoke,e,Qm,pure_bind,Array.empty_append,Array.append_empty]
  refine ⟨(Tame.still _ this).fr,.inr fun w1 r=>?_⟩;rw [show (execOp (Qm n ρ) ⟨d,.call ⟨.value (.func f),xs,aT⟩,t,p,af,gu⟩).run P w1=_ from by rw [<-Sem.runT_fst P _ w1 #[],this]];exact CallsJ.rely (CallsTo.mono hc h) r

end
end Go.Gw

end
section
set_option linter.unusedSectionVars false
namespace Go.Gw
open Go

section
variable {P:Program} [JD P] {n:Nat} {ρ:Env} {w:World}
variable {d:Option Nat} {t T U:TypeId} {p:String} {af:Array Edge} {gu:Option (Nat×Bool)} {x y z:Operand}

omit [JD P] in
structure EInfo (P:Program) (e:TypeId) (k bytes:Nat) (z:Value):Prop where
 ex:∃ i,P.info? e=some i/\i.size=k/\i.bytes=bytes/\i.zero=some z/\z.cells.size=k/\0 < k

omit [JD P] in
theorem EInfo.size {e:TypeId} {k bytes:Nat} {z:Value} (h:EInfo P e k bytes z):Xi P e k:=by
 obtain ⟨i,hi,hk,_⟩:=h.ex;exact ⟨i,hi,hk⟩

theorem Own.made {α:Type} [Rep α] {e:TypeId} {L L':List Value} {xs:List α} {cells:List Value} (h:Elems L w cells xs) (hcap:xs.length<=maxLen) (st:Stepp L w L' { w with heap:=w.heap.push (.cells cells.toArray e (0,0)) }) :
  Own e L' { w with heap:=w.heap.push (.cells cells.toArray e (0,0)) } (.slice (some ⟨w.heap.size,0,none⟩) xs.length xs.length) xs:=by
 refine ⟨cells,⟨h.1,.inr ⟨w.heap.size,xs.length,cells.toArray,rfl,Nat.zero_le _,by simp,Ek _,hcap,by simpa using h.1,?_⟩⟩,h.step st⟩;rw [<-h.1];simp


/-! ### Filling, over lists -/
def J9 (place:Nat->Option (Nat×Nat)) (cells:List Value):List (Nat×Value)->Option (List Value)
 | []=>some cells
 | (i,v)::rest =>
  match place i with
  | none=>none
  | some (off,size)=>bif Eh v.cells.toList.length size&&EB (off+v.cells.toList.length) cells.length then J9 place (YT cells off v.cells.toList) rest else none

theorem QLb (vs:List Value):∀ (cs:Array Value) (off j:Nat),((vs.zipIdx j).foldl (fun (cs:Array Value) (q:Value×Nat)=>cs.setIfInBounds (off+q.2) q.1) cs)=(YT cs.toList (off+j) vs).toArray:=by
 induction vs with
 | nil=>simp_all [YT]
 | cons v vs ih =>
  simp_all [En,List.zipIdx_cons,List.foldl_cons,YT]

theorem Qle {place:Nat->Option (Nat×Nat)}:∀ (parts:List (Nat×Value)) (cells out:List Value),J9 place cells parts=some out->Instr.fill place cells.toArray parts=some out.toArray
 | [],cells,out,h=>by grind [Instr.fill,J9]
 | (i,v)::rest,cells,out,h=>by
  simp only [J9] at h;simp only [Instr.fill];cases hp:place i with
  | none=>grind
  | some q =>
   obtain ⟨off,size⟩:=q;simp only [hp] at h;cases hb:(Eh v.cells.toList.length size&&EB (off+v.cells.toList.length) cells.length) with
   | false=>grind
   | true =>
    simp only [hb,cond_true] at h;simp only [Eg,Nat.beq_eq,Nat.ble_eq,Array.length_toList] at hb;have h1:¬ (v.cells.size≠size||decide (off+v.cells.size > cells.toArray.size))=true:=by simp;omega
    have h2:=QLb v.cells.toList cells.toArray off 0;have h3:v.cells.zipIdx.foldl (fun cs (c,j)=>cs.setIfInBounds (off+j) c) cells.toArray=(YT cells off v.cells.toList).toArray:=by
     rw [<-Array.foldl_toList]
     grind
    simp_all [Qle,if_neg]

def Qdm (z:List Value) (k:Nat):List Value:=(Eb k).map fun i=>z.getD (i % z.length) undef

theorem Q0u (z:Array Value) (k:Nat) (h:0 < z.size\/k=0):(EC k).map (z[· % z.size]!)=(Qdm z.toList k).toArray:=by
 grind [Nat.mod_lt,List.getD,List.map_congr_left,Et,Array.toList_range,Qdm,Array.ext']

theorem Qqs {α:Type} [Rep α] {e:TypeId} {bytes:Nat} {z:Value} {L:List Value} {len:Nat} {xs:List α} {cells:List Value} {parts:Array (Nat×Operand)} {K:Value->World->Prop}
  (hu:P.underlying T=some (.slice e)) (hi:EInfo P e (Rep.n α) bytes z) (hsmall:EB (len * Rep.n α) 16777216=true)
  (hf':J9 (fun i=>some (i * Rep.n α,Rep.n α)) (Qdm z.cells.toList (len * Rep.n α)) (parts.toList.map fun q=>(q.1,Qm n ρ q.2))=some cells)
  (hel:Elems L w cells xs) (hl:xs.length=len)
  (h:∀ b w',w.heap.size<=b->Ext w w'->Own e L w' (.slice (some ⟨b,0,none⟩) len len) xs->Own e (.slice (some ⟨b,0,none⟩) len len::L) w' (.slice (some ⟨b,0,none⟩) len len) xs->K (.slice (some ⟨b,0,none⟩) len len) w'):Eff P ⟨d,.buildSlice T len parts,t,p,af,gu⟩ n ρ w K:=Ja (X0 (QXl _ _ _)) fun w1 e1=>by
 obtain ⟨i,h1,h2,h3,h4,h5,h6⟩:=hi.ex;have hsm:¬ len * Rep.n α > 2 ^ 24:=by
  simp_all
 have hcap:xs.length<=maxLen:=by
  have h7:len * 1<=len * Rep.n α:=Nat.mul_le_mul_left _ h6
  grind [maxLen,Rep.n]
 have hf:Instr.fill (fun i=>some (i * Rep.n α,Rep.n α)) ((EC (len * Rep.n α)).map (z.cells[· % z.cells.size]!)) (parts.map fun q=>(q.1,Qm n ρ q.2)).toList=some cells.toArray:=by
  grind [Qle,Q0u,Et]
 have hz:(Array.map (fun q:Nat×Operand=>(q.1,Qm n ρ q.2)) parts)=Array.map (fun (i,x)=>(i,Qm n ρ x)) parts:=rfl;have hr:(Instr.buildSlice T len (parts.map fun (i,x)=>(i,Qm n ρ x))).run P w1=.ok (.slice (some ⟨w1.heap.size,0,none⟩) len len) { w1 with heap:=w1.heap.push (.cells cells.toArray e (0,0)) }:=by
  rw [hz] at hf;have hzv:(zeroValue e).run P w1=.ok z w1:=by simp [zeroValue,typeInfo,h1,h4]
  by_cases h0:len * Rep.n α=0
  ·have hl0:len=0:=by grind [Nat.mul_eq_zero]
   subst hl0;have hf':Instr.fill (fun i=>some (i * Rep.n α,Rep.n α)) #[] (parts.map fun (i,x)=>(i,Qm n ρ x)).toList=some cells.toArray:=by grind
   have e0:(Array.map (fun x=>(#[]:Array Value)[x % (#[]:Array Value).size]!) (EC 0))=#[]:=by simp
   simp only [Instr.buildSlice,Sem.run_bind,run_underlying hu,Result.andThen,YW hi.size,Nat.zero_mul];rw [if_neg (by decide),if_pos trivial,Sem.run_bind,Sem.run_pure];simp only [Result.andThen,e0,hf'];rfl
  ·simp only [Instr.buildSlice,Sem.run_bind,run_underlying hu,Result.andThen,YW hi.size,if_neg hsm,if_neg h0,hzv,Sem.run_pure];rw [hf];rfl
 simp only [execOp,Sem.run_bind,hr,Result.andThen,Sem.run_pure,effR];have hel:=hel.step (Stepp.ext (L:=L) e1);have o1:=Own.made (e:=e) hel hcap (Stepp.ext (Ext.alloc ..));have o2:=Own.made (e:=e) hel hcap (Stepp.add (.slice (some ⟨w1.heap.size,0,none⟩) len len) (Ext.alloc ..) (fun b hb=>by grind [Qu]));rw [hl] at o1 o2;exact h _ _ e1.size (e1.trans (Ext.alloc ..)) o1 o2

theorem QCs {α:Type} [Rep α] {e:TypeId} {bytes:Nat} {zz:Value} {L:List Value} {v vx:Value} {xs ys:List α}
    (hu:P.underlying T=some (.slice e)) (hi:EInfo P e (Rep.n α) bytes zz) (hown:Own e (v::L) w v xs) (hs:SlRd (v::L) w vx ys)
    (hb:(xs.length+ys.length) * bytes<=140737488355328) (hm:xs.length+ys.length<=maxLen) :
    ∃ v' w',(Builtin.append_ #[T,T] t #[v,vx]).run P w=.ok v' w'/\Chg [v] w w'/\(∀ b,Qu v'=some b->Qu v=some b\/w.heap.size<=b)/\Own e (v'::L) w' v' (xs++ys):=by
  obtain ⟨i,h1,h2,h3,h4,h5,h6⟩:=hi.ex;obtain ⟨av,capv,hv,_⟩:=hown.shape;obtain ⟨cells,ho,hel⟩:=hown;rcases hs with ⟨a0,rfl,rfl⟩ | ⟨b,off,cap,cur,e',fz,rfl,hblk,hA,hcap,hcm,hsz,hely⟩
  · refine ⟨v,w,?_,Chg.refl _ _,fun b hb=>.inl hb,?_⟩
    · subst hv;have hle:xs.length<=capv:=by
        rcases ho.2 with ⟨hh,h0⟩ | ⟨g,cap,cur,hh,_,_,h4,_⟩
        · omega
        simp_all
      have hnot:∀ q,P.underlying T=some q->(match q with | .int _=>true | _=>false)=false:=by simp_all
      simp [Builtin.append_,run_underlying hu,sizeOf,typeInfo,h1,Builtin.lenOf,Builtin.firstCells,hle];have hl0:∀ a:Addr,(loadCells a 0).run P w=.ok #[] w:=fun a=>run_loadCells_list (P:=P) w a [] (fun j v hv=>by simp at hv)
      cases av<;>cases a0<;>simp [storeCells,hl0]
    · rw [List.append_nil];exact ⟨cells,ho,hel⟩
  · have hnl:(((cur.toList.drop off).take (ys.length * Rep.n α))).length=ys.length * Rep.n α:=hely.1;have hbase:(0:Nat)<=w.heap.size:=Nat.zero_le _;obtain ⟨v',w',hr,ho',hg,_⟩:=run_append_own (P:=P) w 0 T t e i zz (Rep.n α) bytes hu h1 h4 h2 h3 h5 h6 v xs.length cells ho ⟨b,off,none⟩ ys.length cap ((cur.toList.drop off).take (ys.length * Rep.n α)) hnl
      (fun j u hu=>by
        grind [World.cell?,Ee,Rep.n,Ep,Ey,YP])
      hely.cells1 hm hb hbase
    have hc:Chg [v] w w':=Chg.of_grown hg;have hnews:∀ j u,((cur.toList.drop off).take (ys.length * Rep.n α))[j]?=some u->w.cell? ((⟨b,off,none⟩:Addr).add j)=some u:=fun j u hu=>by
      grind [World.cell?,Ee,Rep.n,Ep,Ey,YP]
    have hbl:∀ b,Qu v'=some b->Qu v=some b\/w.heap.size<=b:=by
      intro k hk;rcases ho.2 with ⟨hh,h0⟩ | ⟨g,cap',cur',hh,_,hg',h4',_,hcs,htake⟩
      · have hown2:w.ownsRow w.heap.size e (Rep.n α) v xs.length cells:=⟨ho.1,.inl ⟨hh,h0⟩⟩;obtain ⟨v2,w2,hr2,ho2,_⟩:=run_append_own (P:=P) w w.heap.size T t e i zz (Rep.n α) bytes hu h1 h4 h2 h3 h5 h6 v xs.length cells hown2 ⟨b,off,none⟩ ys.length cap _ hnl hnews hely.cells1 hm hb (Ek _);rw [hr] at hr2;cases hr2;have hw:v'.ownBlock=some k:=by
          rcases ho2.2 with ⟨hh,_⟩ | ⟨g2,_,_,hh,_⟩<;>subst hh
          · cases hk
          · exact hk
        exact .inr (ho2.lt k hw).1
      · subst hh;by_cases hroom:xs.length+ys.length<=cap'
        · have hr2:=run_append_room (P:=P) w T t e i hu h1 g xs.length cap' cur' hg' ⟨b,off,none⟩ ys.length cap _ (by simp_all) hnews hely.cells1 hroom (by rw [h2,hnl,hcs,<-Ev];exact Ea _ hroom);rw [hr] at hr2;cases hr2;exact .inl hk
        · have holds:∀ j u,cells[j]?=some u->w.cell? ((⟨g,0,none⟩:Addr).add j)=some u:=World.ownsRow.cells ho (g:=g) rfl;have hr2:=run_append_grow (P:=P) w T t e i zz hu h1 h4 ⟨g,0,none⟩ xs.length cap' cells (by rw [h2];exact ho.1) holds ⟨b,off,none⟩ ys.length cap _ (by simp_all) hnews (by omega) (by grind [maxLen]) (growslice_fits (by omega) (by simp_all))
          grind [Qu]
    refine ⟨v',w',hr,hc,hbl,?_⟩;have st:Stepp (v::L) w (v'::L) w':=Stepp.swap hc hbl;exact ⟨cells++_,by grind,(hel.step st).append (Elems.step st hely)⟩

theorem QIb {α:Type} [Rep α] {e:TypeId} {bytes:Nat} {zz:Value} {L:List Value} {v vx:Value} {xs ys:List α} {K:Value->World->Prop} {aT:Array TypeId}
  (hu:P.underlying T=some (.slice e)) (hi:EInfo P e (Rep.n α) bytes zz) (hT:aT=#[T,T]) (hx:Qm n ρ x=v) (hy:Qm n ρ y=vx) (hown:Own e (v::L) w v xs) (hs:SlRd (v::L) w vx ys)
  (hb:(xs.length+ys.length) * bytes<=140737488355328) (hm:xs.length+ys.length<=maxLen)
  (h:∀ v' w',Chg [v] w w'->(∀ b,Qu v'=some b->Qu v=some b\/w.heap.size<=b)->Own e (v'::L) w' v' (xs++ys)->K v' w'):Eff P ⟨d,.call ⟨.builtin .append,#[x,y],aT⟩,t,p,af,gu⟩ n ρ w K:=by
 subst hT;have e0:execOp (Qm n ρ) ⟨d,.call ⟨.builtin .append,#[x,y],#[T,T]⟩,t,p,af,gu⟩=(Builtin.append_ #[T,T] t #[v,vx] >>= fun v=>Pure.pure (Next.value v)):=by
  simp [execOp,resolve,invoke,builtin,hx,hy]
 refine Ja (by grind [X0,QEc]) fun w1 e1=>?_;rw [e0];obtain ⟨v',w',hr,hc,hbl,ho⟩:=QCs (P:=P) (t:=t) hu hi (hown.step (Stepp.ext e1) e1 (fun _ _=>Avoids.nil _)) (hs.step (Stepp.ext e1)) hb hm;simp only [Sem.run_bind,hr,Result.andThen,Sem.run_pure,effR];refine h v' w' ((e1.mono (fun _ h=>by cases h)).trans hc) (fun b hb=>(hbl b hb).imp id fun h=>Er e1.size h) ho

end
end Go.Gw

end
section
set_option linter.unusedSectionVars false
namespace Go.Gw
open Go

section
variable {P:Program} [JD P] {n:Nat} {ρ:Env} {w:World}
variable {d:Option Nat} {t T U:TypeId} {p:String} {af:Array Edge} {gu:Option (Nat×Bool)} {x y z:Operand}

theorem SlRd.ext {α:Type} [Rep α] {L:List Value} {w w':World} {v:Value} {xs:List α} (h:SlRd L w v xs) (e:Ext w w'):SlRd L w' v xs:=h.step (Stepp.ext e)
theorem At.ext' {w w':World} {a:Addr} {cs:List Value} (h:At w a cs) (e:Ext w w'):At w' a cs:=At.ext e h
theorem Own.ext {α:Type} [Rep α] {e:TypeId} {L:List Value} {w w':World} {v:Value} {xs:List α} (h:Own e L w v xs) (c:Ext w w'):Own e L w' v xs:=h.step (Stepp.ext c) c (fun _ _=>Avoids.nil _)
theorem Rep.rd.ext {α:Type} [Rep α] {L:List Value} {w w':World} {cs:List Value} {a:α} (h:Rep.rd L w cs a) (c:Ext w w'):Rep.rd L w' cs a:=Rep.step (Stepp.ext c) h
theorem Rep.rd.step {α:Type} [Rep α] {L L':List Value} {w w':World} {cs:List Value} {a:α} (h:Rep.rd L w cs a) (s:Stepp L w L' w'):Rep.rd L' w' cs a:=Rep.step s h
theorem Rep.rd.sub {α:Type} [Rep α] {L L':List Value} {w:World} {cs:List Value} {a:α} (h:Rep.rd L w cs a) (hs:∀ x∈L',x∈L):Rep.rd L' w cs a:=Rep.step (Stepp.sub w hs) h
theorem Qcs {α:Type} [Rep α] {e:TypeId} {L:List Value} {w2:World} {v:Value} {xs:List α} {k:IntKind} {i:Int} {el:α} (hu:P.underlying T=some (.slice e)) (hs:Xi P e (Rep.n α)) (hown:Own e L w2 v xs)
  (hel:idx xs i=some el) (hx:Qm n ρ x=v) (hy:Qm n ρ y=.int k i):Yl P n ρ ⟨d,.indexAddr T x y,t,p,af,gu⟩ w (.pointer (some (ZE v i.toNat (Rep.n α)))):=by
 obtain ⟨h0,h1,_⟩:=JG hel;obtain ⟨cells,ho,_⟩:=hown;rcases ho.2 with ⟨_,h⟩ | ⟨g,cap,cur,rfl,_⟩
 ·omega
 ·have h2:i < (xs.length:Int):=by omega
  exact YL (X0 (Qox _ _ _)) fun w1 _=>by simp [execOp,hx,hy,Instr.indexAt,asIntOf,run_underlying hu,h0,h2,YW hs,ZE]

theorem Own.at {α:Type} [Rep α] {e:TypeId} {L:List Value} {v:Value} {xs:List α} {i:Int} {el:α} (hown:Own e L w v xs) (hel:idx xs i=some el):∃ cs,At w (ZE v i.toNat (Rep.n α)) cs/\Rep.rd L w cs el:=by
 obtain ⟨h0,h1,h2⟩:=JG hel;obtain ⟨cells,ho,hE⟩:=hown;rcases ho.2 with ⟨_,h⟩ | ⟨g,cap,cur,rfl,_,hg,h4,h5,hcs,htake⟩
 ·omega
 ·refine ⟨_,?_,hE.2 _ el h2⟩;simp only [ZE,YP,Nat.zero_add];refine At.of_block hg fun j u hu=>?_
  grind

theorem Quf {e:TypeId} {size g m cap:Nat}:∀ (vs:List Value) (off i:Nat) (cells:List Value) (w:World),w.ownsRow 0 e size (.slice (some ⟨g,0,none⟩) m cap) m cells->off+i+vs.length<=cells.length->(∀ v∈vs,v.oneCell'=true) ->
  ∃ w',(storeCells ⟨g,off,none⟩ vs i).run P w=.ok () w'/\w'.ownsRow 0 e size (.slice (some ⟨g,0,none⟩) m cap) m (YT cells (off+i) vs)/\w.grownBy w' (some g)
 | [],off,i,cells,w,ho,_,_=>⟨w,rfl,ho,⟨rfl,rfl,rfl,Ek _,fun _ _ _=>rfl⟩⟩
 | v::vs,off,i,cells,w,ho,hl,h1=>by
  have hlt:off+i < cells.length:=by grind
  have hc:w.cell? ⟨g,off+i,none⟩=some cells[off+i]:=by
   have:=World.ownsRow.cells ho (g:=g) rfl (off+i) _ (Es hlt);rwa [YP,Nat.zero_add] at this
  have hfz:w.frozen? ⟨g,off+i,none⟩=false:=by
   rcases ho.2 with ⟨h,_⟩ | ⟨g',cap',cur,h,_,hg,_⟩
   ·cases h
   grind [World.frozen?]
  obtain ⟨ho1,hg1⟩:=World.ownsRow.stored (w:=w) (e:=e) (size:=size) (base:=0) ho (off+i) v;obtain ⟨w',hr,ho2,hg2⟩:=Quf vs off (i+1) (cells.set (off+i) v) (w.setCell ⟨g,off+i,none⟩ v) ho1 (by grind) (fun u hu=>h1 u (Ej _ hu));refine ⟨w',?_,ho2,⟨hg2.os.trans hg1.os,hg2.tape.trans hg1.tape,hg2.output.trans hg1.output,Er hg1.size hg2.size,fun k hk hne=>(hg2.block k (Ed hk hg1.size) hne).trans (hg1.block k hk hne)⟩⟩;have hst:(store ((⟨g,off,none⟩:Addr).add i) v).run P w=.ok () (w.setCell ⟨g,off+i,none⟩ v):=by
   have:=h1 v (El ..);rw [YP];cases v<;>simp [Value.oneCell'] at this<;>simp [store,Sem.run,hc,hfz]
  grind [storeCells,Sem.run_bind,Result.andThen]

theorem QDc (vs:List Value):∀ (cs:List Value) (k:Nat),(YT cs k vs).length=cs.length:=by
 induction vs with
 | nil=>intro cs k;rfl
 | cons v vs ih=>grind [YT]

theorem QDe (vs:List Value):∀ (cells:List Value) (a b k:Nat),k+vs.length<=b->((YT cells (a+k) vs).drop a).take b=YT ((cells.drop a).take b) k vs:=by
 induction vs with
 | nil=>intro cells a b k _;rfl
 | cons v vs ih =>
  intro cells a b k hk;simp only [YT];have h1:k+1+vs.length<=b:=by grind
  simp_all [List.drop_set,if_neg,List.take_set,Nat.add_sub_cancel_left,En]

theorem QDd (vs:List Value):∀ (cells:List Value) (a b k:Nat),(a+b<=k\/k+vs.length<=a)->((YT cells k vs).drop a).take b=(cells.drop a).take b:=by
 induction vs with
 | nil=>intro cells a b k _;rfl
 | cons v vs ih =>
  grind [List.take_set,List.set_eq_of_length_le,List.drop_set,YT]

theorem QIm {α:Type} [Rep α] {e:TypeId} {L:List Value} {v:Value} {xs:List α} {i:Int} {el y':α} {off:Nat} {u:Value} {K:Value->World->Prop} (hs:Xi P T u.cells.size) (hown:Own e L w v xs) (hv:v∈L) (hel:idx xs i=some el)
    (hx:Qm n ρ x=.pointer (some ((ZE v i.toNat (Rep.n α)).add off))) (hy:Qm n ρ y=u) (hl:off+u.cells.size<=Rep.n α) (h1:∀ c∈u.cells.toList,c.oneCell'=true)
    (hset:∀ w' cs,Rep.rd L w' cs el->Rep.rd L w' (YT cs off u.cells.toList) y')
    (h:∀ w',Chg [v] w w'->Own e L w' v (xs.set i.toNat y')->K undef w'):Eff P ⟨d,.store T x y,t,p,af,gu⟩ n ρ w K:=by
  refine Ja (Qvr (Qvq _ _ _)) fun w1 e1=>?_;replace hown:=hown.step (Stepp.ext e1) e1 (fun _ _=>Avoids.nil _);obtain ⟨h0,hi,h2⟩:=JG hel;obtain ⟨cells,ho,hE⟩:=hown;rcases ho.2 with ⟨_,hh⟩ | ⟨g,cap,cur,rfl,_,hg,h4,h5,hcs,htake⟩
  · omega
  · have hlen : i.toNat * Rep.n α + off + 0 + u.cells.toList.length <= cells.length := by
      have:(i.toNat+1) * Rep.n α<=xs.length * Rep.n α:=Ea _ hi;rw [EA] at this;rw [hE.1];simp;omega
    obtain ⟨w',hr,ho2,hg2⟩:=Quf (P:=P) u.cells.toList (i.toNat * Rep.n α+off) 0 cells w1 ho hlen h1;have hx':Qm n ρ x=.pointer (some ⟨g,i.toNat * Rep.n α+off,none⟩):=by grind [ZE,YP]
    have hst:(Instr.storeAt T (.pointer (some ⟨g,i.toNat * Rep.n α+off,none⟩)) u).run P w1=.ok () w':=by
      simp [Instr.storeAt,Instr.sureAddr,storeVar,YW hs,hr]
    simp only [execOp,hx',hy,Sem.run_bind,hst,Result.andThen,Sem.run_pure,effR];have hc:Chg [Value.slice (some ⟨g,0,none⟩) xs.length cap] w1 w':=⟨hg2.os,hg2.tape,hg2.output,hg2.size,fun b hb hA=>hg2.block b hb (fun e=>hA _ (List.mem_singleton.2 rfl) (by cases e;rfl))⟩;refine h w' ((e1.mono (fun _ h=>by cases h)).trans hc) ⟨_,by rw [List.length_set];exact ho2,?_⟩;have hE':=hE.step (Qj hc hv);refine ⟨by rw [QDc,List.length_set];exact hE.1,fun j b hb=>?_⟩;by_cases hj:j=i.toNat
    · subst hj;rw [List.getElem?_set_self hi] at hb;cases hb;rw [Nat.add_zero,QDe _ _ _ _ _ (by omega)];exact hset _ _ (hE'.2 _ _ h2)
    · rw [List.getElem?_set_ne (Ne.symm hj)] at hb;rw [Nat.add_zero,QDd]
      · exact hE'.2 _ _ hb
      · rcases Ep j i.toNat with hlt | hge
        · left;have:(j+1) * Rep.n α<=i.toNat * Rep.n α:=Ea _ hlt
          grind
        · right;have:(i.toNat+1) * Rep.n α<=j * Rep.n α:=Ea _ (by omega)
          grind

/-! ### Cuts -/
def cut {α:Type} (xs:List α) (lo hi:Int):Option (List α):=if 0<=lo/\lo<=hi/\hi<=xs.length then some ((xs.take hi.toNat).drop lo.toNat) else none

theorem Qbe {α:Type} {xs ys:List α} {lo hi:Int} (h:cut xs lo hi=some ys):0<=lo/\lo<=hi/\hi<=xs.length/\ys=(xs.take hi.toNat).drop lo.toNat:=by
 grind [cut]

def Yf (v:Value) (lo hi k:Nat):Value:=match v with
 | .slice a _ c=>.slice (if c=lo then a else a.map (·.add (lo * k))) (hi - lo) (c - lo)
 | v=>v

theorem SlRd.cut {α:Type} [Rep α] {L:List Value} {w:World} {v:Value} {xs ys:List α} {lo hi:Int} (hs:SlRd L w v xs) (hc:cut xs lo hi=some ys):SlRd L w (Yf v lo.toNat hi.toNat (Rep.n α)) ys:=by
 obtain ⟨h0,h1,h2,rfl⟩:=Qbe hc;rcases hs with ⟨a0,rfl,rfl⟩ | ⟨b,off,cap,cur,e,fz,rfl,hb,hA,h4,h5,h6,h7⟩
 ·have:hi=0:=by grind
  subst this;have:lo=0:=by omega
  subst this;exact .inl ⟨a0,by rfl,by simp⟩
 ·have hlen:((xs.take hi.toNat).drop lo.toNat).length=hi.toNat - lo.toNat:=by simp;omega
  have elem:∀ off',off'=off+lo.toNat * Rep.n α->Elems L w ((cur.toList.drop off').take (((xs.take hi.toNat).drop lo.toNat).length * Rep.n α)) ((xs.take hi.toNat).drop lo.toNat):=by
   rintro off' rfl;have hmul:(lo.toNat+(hi.toNat - lo.toNat)) * Rep.n α<=xs.length * Rep.n α:=Ea _ (by omega);have hmul2:xs.length * Rep.n α<=cap * Rep.n α:=Ea _ h4;rw [Ev] at hmul;refine ⟨by grind,fun j b hb=>?_⟩;have hj:j < hi.toNat - lo.toNat:=by
    grind
   have hb':xs[lo.toNat+j]?=some b:=by
    grind
   have:=h7.2 _ b hb';have hj2:(j+1) * Rep.n α<=(hi.toNat - lo.toNat) * Rep.n α:=Ea _ hj
   grind [En,Nat.min_eq_left,List.drop_take,List.drop_drop,Rep.n,Ev,EA]
  by_cases hcl:cap=lo.toNat
  ·refine .inr ⟨b,off,cap - lo.toNat,cur,e,fz,by grind [Yf],hb,hA,by omega,by omega,?_,?_⟩
   ·grind
   grind [List.eq_nil_of_length_eq_zero,Elems]
  ·refine .inr ⟨b,off+lo.toNat * Rep.n α,cap - lo.toNat,cur,e,fz,by grind [Yf,YP],hb,hA,by omega,by omega,?_,elem _ rfl⟩;have:(lo.toNat+(cap - lo.toNat)) * Rep.n α<=cap * Rep.n α:=Ea _ (by omega)
   grind

theorem Qdg {k:IntKind} {i:Int} {y:Nat} {c:BoundsCode} (h0:0<=i) (h1:i<=y):(Instr.sliceBound (.int k i) y c).run P w=.ok i.toNat w:=by
 simp [Instr.sliceBound,asIntOf,h0,h1]

theorem Qeu {α:Type} [Rep α] {e:TypeId} {L:List Value} {w2:World} {v:Value} {xs ys:List α} {k':IntKind} {hi:Int} (hu:P.underlying T=some (.slice e)) (hz:Xi P e (Rep.n α)) (hs:SlRd L w2 v xs) (hc:cut xs 0 hi=some ys)
  (hx:Qm n ρ x=v) (hh:Qm n ρ z=.int k' hi):Yl P n ρ ⟨d,.slice T x none (some z) none,t,p,af,gu⟩ w (Yf v 0 hi.toNat (Rep.n α)):=by
 obtain ⟨h0,h1,h2,_⟩:=Qbe hc;obtain ⟨a,cap,hv,_⟩:=hs.shape;have hcap:xs.length<=cap:=by
  rcases hs with ⟨a0,rfl,rfl⟩ | ⟨b,off,cap',cur,e,fz,rfl,hb,hA,h4,_⟩
  ·simp
  simp_all
 subst hv;refine YL (X0 (J5 _ _ _ _ _)) fun w1 _=>?_;have e1:=Qdg (P:=P) (w:=w1) (k:=k') (i:=hi) (y:=cap) (c:=.sliceAcap) (by omega) (by omega);simp [execOp,hx,hh,Instr.sliceAt,Instr.slice,run_underlying hu,Instr.sliceBounds,e1,YW hz,Yf]

theorem Qke {α:Type} [Rep α] {e:TypeId} {L:List Value} {w2:World} {v:Value} {xs ys:List α} {k:IntKind} {lo:Int} (hu:P.underlying T=some (.slice e)) (hz:Xi P e (Rep.n α)) (hs:SlRd L w2 v xs) (hc:cut xs lo xs.length=some ys)
  (hx:Qm n ρ x=v) (hl:Qm n ρ y=.int k lo):Yl P n ρ ⟨d,.slice T x (some y) none none,t,p,af,gu⟩ w (Yf v lo.toNat ((xs.length:Int).toNat) (Rep.n α)):=by
 obtain ⟨h0,h1,h2,_⟩:=Qbe hc;obtain ⟨a,cap,hv,_⟩:=hs.shape;subst hv;refine YL (X0 (J5 _ _ _ _ _)) fun w1 _=>?_;have e2:=Qdg (P:=P) (w:=w1) (k:=k) (i:=lo) (y:=xs.length) (c:=.sliceB) h0 (by omega);simp [execOp,hx,hl,Instr.sliceAt,Instr.slice,run_underlying hu,Instr.sliceBounds,e2,YW hz,Yf]

/-! ### Structs and arrays built; made slices -/
omit [JD P] in
structure BI (P:Program) (T:TypeId) (places:List (Nat×Nat)) (zero:List Value):Prop where
 ex:∃ it fs z,P.info? T=some it/\P.underlying T=some (.struct fs)/\it.zero=some z/\z.cells=zero.toArray/\fs.toList.mapM (fun f=>(P.info? f.type).map fun i=>(f.offset,i.size))=some places

theorem QZs {cells zero:List Value} {places:List (Nat×Nat)} {parts:Array (Nat×Operand)} (hB:BI P T places zero) (h:J9 (places[·]?) zero (parts.toList.map fun q=>(q.1,Qm n ρ q.2))=some cells) :
  Yl P n ρ ⟨d,.build T parts,t,p,af,gu⟩ w (.agg cells.toArray):=by
 obtain ⟨it,fs,z,h1,h2,h3,h4,h5⟩:=hB.ex;have h':P.built T (parts.map fun (i,x)=>(i,Qm n ρ x)).toList=some cells.toArray:=by
  simp_all [Et,Qle,Program.built]
 grind [YL,X0,QEe,execOp,Sem.run_bind,run_build,Result.andThen,Sem.run_pure]

theorem Qwe {e m sz:Nat} {k:IntKind} {i:Int} {a:Addr} (hu:P.underlying T=some (.array m e)) (hs:Xi P e sz) (h0:0<=i) (h1:i < m) (hx:Qm n ρ x=.pointer (some a)) (hy:Qm n ρ y=.int k i) :
  Yl P n ρ ⟨d,.indexAddr T x y,t,p,af,gu⟩ w (.pointer (some (a.add (i.toNat * sz)))):=by
 exact YL (X0 (Qox _ _ _)) fun w1 _=>by simp [execOp,hx,hy,Instr.indexAt,asIntOf,run_underlying hu,Instr.sureAddr,h0,h1,YW hs]

end
end Go.Gw

end
