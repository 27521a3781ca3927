/- Walking the model's code over environments: a piece of code, a region in the text's order, a region that draws its order, a loop by its step function. No condition. -/
import Derived.OrdersHeld
import Derived.Tactics
import Derived.Test.YtpgpimedmpeliaaGreatDoorGwCj4
set_option linter.unusedVariables false
set_option linter.unusedSimpArgs false
set_option linter.unusedSectionVars false
set_option linter.unusedSectionVars false
set_option linter.unusedVariables false
namespace Go.Gw
open Go Go.Conc

class JD (P:Program) where
  j:Jd P

abbrev Env:=Nat→Value
def upd (ρ:Env) (d:Nat) (v:Value):Env:=fun i=>bif Nat.beq i d then v else ρ i
def Xb (ρ:Env) (d:Option Nat) (v:Value):Env:=match d with | some d=>upd ρ d v | none=>ρ
def act (n:Nat) (ρ:Env):Act:=⟨Array.ofFn (n:=n) fun i=>ρ i.1,[]⟩
def Qk (n:Nat) (ρ:Env):Operand→Value
  | .tmp t=>bif Nat.blt t n then ρ t else undef
  | .const v=>v
  | .global g=>.pointer (some ⟨g,0,none⟩)
  | .func f=>.func (.func f) #[] #[]

theorem Qph (i:Nat):Nat.beq i i=true:=by rw [Nat.beq_eq]
theorem Qcz {i j:Nat} (h:i≠j):Nat.beq i j=false:=by
  cases hb:Nat.beq i j with
  | false=>rfl
  | true=>rw [Nat.beq_eq] at hb;exact absurd hb h
theorem QCm {i j:Nat} (h:i < j):Nat.blt i j=true:=by rw [Nat.blt_eq];exact h
theorem Qpi {i j:Nat} (h:j≤i):Nat.blt i j=false:=by
  cases hb:Nat.blt i j with
  | false=>rfl
  | true=>rw [Nat.blt_eq] at hb;omega

theorem Qlv (n:Nat) (ρ:Env) (d:Nat) (v:Value):(act n ρ).put (some d) v=act n (upd ρ d v):=by
  simp only [act,Act.put]
  congr 1
  apply Array.ext
  · simp
  · intro i h1 h2
    simp only [Array.getElem_ofFn,upd]
    by_cases h:d=i
    · subst h;simp
    · rw [Array.getElem_setIfInBounds_ne (by simpa using h2) h];simp [Qcz (Ne.symm h)]

theorem YV (n:Nat) (ρ:Env) (d:Option Nat) (v:Value):(act n ρ).put d v=act n (Xb ρ d v):=by
  cases d with
  | none=>rfl
  | some d=>exact Qlv n ρ d v

theorem ZA (n:Nat) (ρ:Env):(act n ρ).eval=Qk n ρ:=by
  funext x
  cases x with
  | tmp t =>
    simp only [Act.eval,act,Qk]
    by_cases h:t < n
    · simp [Array.getD,h,QCm h]
    · simp [Array.getD,h,Qpi (Nat.le_of_not_lt h)]
  | const v=>rfl
  | global g=>rfl
  | func f=>rfl

theorem Qbb (args : List Value) (n : Nat) (h : args.length ≤ n) :
    ({ tmps:=args.toArray++Array.replicate (n - args.toArray.size) undef,defers:=[] }:Act)=act n (fun i=>args.getD i undef):=by
  simp only [act]
  congr 1
  apply Array.ext
  · simp;omega
  · intro i h1 h2
    simp only [Array.getElem_ofFn]
    simp at h1
    by_cases hi:i < args.length
    · rw [Array.getElem_append_left (by simpa using hi)];simp [List.getD,hi]
    · rw [Array.getElem_append_right (by simpa using Nat.le_of_not_lt hi)];simp [List.getD,hi]

abbrev CallsTo (P:Program) [JD P] (f:FuncId) (args:List Value) (w:World) (Φ:Value→World→Prop):Prop:=CallsJ (JD.j (P:=P)) f args.toArray w Φ
theorem CallsTo.mono {P:Program} [JD P] {f:FuncId} {args:List Value} {w:World} {Φ Ψ:Value→World→Prop} (h:CallsTo P f args w Φ) (hm:∀ v w',Φ v w'→Ψ v w'):CallsTo P f args w Ψ:=CallsJ.mono h hm

structure Post where
  norm:Env→World→Prop
  ex:Nat→Env→World→Prop
  ret:Env→World→Prop

def Post.Q (n:Nat) (q:Post):Exit→Act→World→Prop
  | .normal,a,w=>∃ ρ,a=act n ρ∧q.norm ρ w
  | .exit i,a,w=>∃ ρ,a=act n ρ∧q.ex i ρ w
  | .ret,a,w=>∃ ρ,a=act n ρ∧q.ret ρ w
  | _,_,_=>False

abbrev pt (b:Nat):Value:=.pointer (some ⟨b,0,none⟩)
abbrev ptk (b k:Nat):Value:=.pointer (some ⟨b,k,none⟩)
abbrev Iv (i:Int):Value:=.int .i64 i
def WC (P:Program) [JD P] (n:Nat) (c:Code) (q:Post) (ρ:Env) (w:World):Prop:=Yu (JD.j (P:=P)) c (q.Q n) (act n ρ) w

section
variable {P:Program} [JD P] {n:Nat} {q:Post} {ρ:Env} {w:World}

theorem WC.mono {c:Code} {q':Post} (h:WC P n c q ρ w) (h1:∀ ρ w,q.norm ρ w→q'.norm ρ w) (h2:∀ i ρ w,q.ex i ρ w→q'.ex i ρ w) (h3:∀ ρ w,q.ret ρ w→q'.ret ρ w):WC P n c q' ρ w :=
  JS h fun e a w he=>by
    cases e<;>first
      | exact he
      | (obtain ⟨ρ,ha,hq⟩:=he;first | exact ⟨ρ,ha,h1 _ _ hq⟩ | exact ⟨ρ,ha,h2 _ _ _ hq⟩ | exact ⟨ρ,ha,h3 _ _ hq⟩)

theorem Qy (h:q.norm ρ w):WC P n .skip q ρ w:=QKl ⟨ρ,rfl,h⟩
theorem Qs (h:q.ret ρ w):WC P n .ret q ρ w:=QKj ⟨ρ,rfl,h⟩
theorem Xg {i:Nat} (h:q.ex i ρ w):WC P n (.exit i) q ρ w:=QKg ⟨ρ,rfl,h⟩

theorem Qlt {x y:Code} (h:WC P n x ⟨fun ρ w=>WC P n y q ρ w,q.ex,q.ret⟩ ρ w):WC P n (.seq x y) q ρ w :=
  QKk (JS h fun e a w he=>by
    cases e<;>first
      | exact he
      | (obtain ⟨ρ,ha,hq⟩:=he;subst ha;exact hq))

theorem Qm {x y:Code} (h:∀ K:Env→World→Prop,(∀ ρ w,WC P n y q ρ w→K ρ w)→WC P n x ⟨K,q.ex,q.ret⟩ ρ w):WC P n (.seq x y) q ρ w :=
  Qlt (h _ fun _ _ h=>h)

theorem Qt {c:Operand} {x y:Code} {b:Bool} (hc:Qk n ρ c=.bool b) (ht:b=true→WC P n x q ρ w) (hf:b=false→WC P n y q ρ w):WC P n (.cond c x y) q ρ w :=
  QKf (by rw [ZA];exact hc) ht hf

theorem QK {i:Nat} {c:Code} (h:WC P n c ⟨q.norm,fun j=>bif Nat.beq j i then q.norm else q.ex j,q.ret⟩ ρ w):WC P n (.block i c) q ρ w :=
  QKe (JS h fun e a w he=>by
    cases e with
    | exit j =>
      obtain ⟨ρ,ha,hq⟩:=he
      subst ha
      simp only [Exit.inBlock]
      by_cases hj:j=i
      · subst hj;simp only [Qph,cond_true] at hq;rw [if_pos rfl];exact ⟨ρ,rfl,hq⟩
      · rw [if_neg hj];simp only [Qcz hj,cond_false] at hq;exact ⟨ρ,rfl,hq⟩
    | _=>exact he)

def Xs {σ β:Type} (step:σ→Option (σ⊕β)):Nat→σ→Option β
  | 0,_=>none
  | k+1,s=>match step s with
    | none=>none
    | some (.inl s')=>Xs step k s'
    | some (.inr o)=>some o

theorem Qls {c : Code} {σ β : Type} {step : σ → Option (σ ⊕ β)} {k : Nat} {s : σ} {o : β} (I : σ → Env → World → Prop) (h : Xs step k s = some o) (h0 : I s ρ w)
    (round:∀ s ρ w,I s ρ w →
      (∀ s',step s=some (.inl s')→WC P n c ⟨I s',q.ex,q.ret⟩ ρ w) ∧
      (step s=some (.inr o)→WC P n c ⟨fun _ _=>False,q.ex,q.ret⟩ ρ w)):WC P n (.loop c) q ρ w:=by
  refine QKh (fun a w=>∃ k s ρ,a=act n ρ∧Xs step k s=some o∧I s ρ w)
    (fun a w=>Classical.epsilon fun m=>(∃ s ρ,a=act n ρ∧Xs step m s=some o∧I s ρ w)∧∀ m',m' < m→¬ ∃ s ρ,a=act n ρ∧Xs step m' s=some o∧I s ρ w) ⟨k,s,ρ,rfl,h,h0⟩ ?_
  intro a w hI
  have least : ∀ a w, (∃ m, ∃ s ρ, a = act n ρ ∧ Xs step m s = some o ∧ I s ρ w) →
      ∃ m,(∃ s ρ,a=act n ρ∧Xs step m s=some o∧I s ρ w)∧∀ m',m' < m→¬ ∃ s ρ,a=act n ρ∧Xs step m' s=some o∧I s ρ w:=by
    rintro a w ⟨m,hm⟩
    induction m using Nat.strongRecOn with
    | _ m ih =>
      by_cases hex:∃ m',m' < m∧∃ s ρ,a=act n ρ∧Xs step m' s=some o∧I s ρ w
      · obtain ⟨m',hlt,hm'⟩:=hex;exact ih m' hlt hm'
      · exact ⟨m,hm,fun m' hlt hm'=>hex ⟨m',hlt,hm'⟩⟩
  have hl:=Classical.epsilon_spec (least a w hI)
  revert hl
  generalize (Classical.epsilon fun m=>(∃ s ρ,a=act n ρ∧Xs step m s=some o∧I s ρ w)∧∀ m',m' < m→¬ ∃ s ρ,a=act n ρ∧Xs step m' s=some o∧I s ρ w)=m
  rintro ⟨⟨s,ρ,rfl,hs,hI⟩,_⟩
  cases m with
  | zero=>cases hs
  | succ m =>
    have hr:=round s ρ w hI
    simp only [Xs] at hs
    split at hs
    · cases hs
    · rename_i s' hst
      refine JS (hr.1 s' hst) fun e a' w' he=>?_
      cases e<;>first
        | exact he
        | skip
      obtain ⟨ρ',rfl,hI'⟩:=he
      have hex:∃ m,∃ s ρ,act n ρ'=act n ρ∧Xs step m s=some o∧I s ρ w':=⟨m,s',ρ',rfl,hs,hI'⟩
      refine ⟨⟨m,s',ρ',rfl,hs,hI'⟩,?_⟩
      have hl':=Classical.epsilon_spec (least (act n ρ') w' hex)
      revert hl'
      generalize (Classical.epsilon fun m=>(∃ s ρ,act n ρ'=act n ρ∧Xs step m s=some o∧I s ρ w')∧∀ m',m' < m→¬ ∃ s ρ,act n ρ'=act n ρ∧Xs step m' s=some o∧I s ρ w')=m2
      rintro ⟨_,hmin⟩
      rcases Nat.lt_or_ge m2 (m+1) with hlt | hge
      · exact hlt
      · exact absurd ⟨s',ρ',rfl,hs,hI'⟩ (hmin m hge)
    · rename_i o' hst
      cases hs
      exact JS (hr.2 hst) fun e a' w' he=>by
        cases e<;>first
          | exact he
          | (obtain ⟨_,_,hf⟩:=he;exact hf.elim)

/-! ### Operations -/

def effR (P:Program) [JD P] (K:Value→World→Prop):Result Next→Prop
  | .ok (.value v) w'=>K v w'
  | .ok .skip w'=>K undef w'
  | .ok (.enter f args) w'=>CallsJ (JD.j (P:=P)) f args w' K
  | _=>False
def Eff (P:Program) [JD P] (o:Oper) (n:Nat) (ρ:Env) (w:World) (K:Value→World→Prop):Prop :=
  Fr P (execOp (Qk n ρ) o) w∧((∃ v,(∀ w1,Rel w w1→(execOp (Qk n ρ) o).run P w1=.ok (.value v) w1)∧K v w)∨∀ w1,Rel w w1→effR P K ((execOp (Qk n ρ) o).run P w1))

def Xx (ops:Array Oper) (o:Oper) (n:Nat) (ρ:Env):Bool:=Region.wanted o (yielded ops (act n ρ).tmps)

def Stp (P:Program) [JD P] (n:Nat) (ops:Array Oper) (o:Oper) (ρ:Env) (w:World) (K:Env→World→Prop):Prop :=
  if Xx ops o n ρ then Eff P o n ρ w (fun v w'=>K (Xb ρ o.dst v) w') else K (Xb ρ o.dst undef) w

def T0 (P:Program) [JD P] (n:Nat) (ops:Array Oper) (K:Env→World→Prop):List Oper→Env→World→Prop
  | [],ρ,w=>K ρ w
  | o::os,ρ,w=>Stp P n ops o ρ w (T0 P n ops K os)

theorem effR.mono {K K':Value→World→Prop} (hm:∀ v w',K v w'→K' v w') {r:Result Next} (h:effR P K r):effR P K' r:=by
  cases r with
  | ok x w'=>cases x<;>first | exact hm _ _ h | exact CallsJ.mono h hm | exact h
  | halt x w'=>exact h
theorem Eff.mono {o:Oper} {K K':Value→World→Prop} (h:Eff P o n ρ w K) (hm:∀ v w',K v w'→K' v w'):Eff P o n ρ w K' :=
  ⟨h.1,h.2.imp (fun ⟨v,h1,h2⟩=>⟨v,h1,hm _ _ h2⟩) (fun h w1 r=>(h w1 r).mono hm)⟩

theorem Stp.toOp {ops : Array Oper} {i : Nat} {o : Oper} {K : Env → World → Prop} {K' : Act → World → Prop} (hi : ops[i]? = some o) (h : Stp P n ops o ρ w K)
    (hK:∀ ρ w,K ρ w→K' (act n ρ) w):Ym (JD.j (P:=P)) ops i K' (act n ρ) w:=by
  unfold Stp Xx at h
  simp only [Ym,hi]
  split
  · rename_i hw
    rw [if_pos hw] at h
    rw [ZA]
    refine ⟨h.1,h.2.imp (fun ⟨v,h1,h2⟩=>⟨v,h1,by rw [YV];exact hK _ _ h2⟩) (fun h w1 r=>?_)⟩
    have h1:=h w1 r
    generalize (execOp (Qk n ρ) o).run P w1=x at h1
    match x,h1 with
    | .ok (.value v) w',h1=>show K' ((act n ρ).put o.dst v) w';rw [YV];exact hK _ _ h1
    | .ok .skip w',h1=>show K' ((act n ρ).put o.dst undef) w';rw [YV];exact hK _ _ h1
    | .ok (.enter f args) w',h1=>exact CallsJ.mono h1 fun v w'' hv=>by rw [YV];exact hK _ _ hv
  · rename_i hw
    rw [if_neg hw] at h
    rw [YV]
    exact hK _ _ h

theorem T0.toOps {ops : List Oper} {K : Env → World → Prop} {Q : Exit → Act → World → Prop} (hK : ∀ ρ w, K ρ w → Q .normal (act n ρ) w) :
    ∀ (m k:Nat) (ρ:Env) (w:World),k+m=ops.length→T0 P n ops.toArray K (ops.drop k) ρ w→Qag (JD.j (P:=P)) ops.toArray (List.range' k m) Q (act n ρ) w
  | 0,k,ρ,w,hk,h=>by
    rw [List.drop_eq_nil_of_le (by omega)] at h
    exact Qkb (hK ρ w h)
  | m+1,k,ρ,w,hk,h=>by
    have hlt:k < ops.length:=by omega
    rw [List.drop_eq_getElem_cons hlt] at h
    rw [List.range'_succ]
    exact Qqe (Stp.toOp (by simp [hlt]) h fun ρ w h'=>T0.toOps hK m (k+1) ρ w (by omega) h')

theorem QB {id:Nat} {ops:List Oper} (h:T0 P n ops.toArray q.norm ops ρ w):WC P n (.region id ops.toArray false) q ρ w :=
  QKi (by
    have:=T0.toOps (Q:=q.Q n) (fun ρ _ h'=>⟨ρ,rfl,h'⟩) ops.length 0 ρ w (by simp) h
    rw [← List.range_eq_range'] at this
    simpa using this)

theorem Qd {id:Nat} {ops:List Oper} {y:Code} (h:T0 P n ops.toArray (fun ρ w=>WC P n y q ρ w) ops ρ w):WC P n (.seq (.region id ops.toArray false) y) q ρ w :=
  Qlt (QB h)

/-! ### A region that draws its order -/

def Quiet (P:Program) (n:Nat) (ops:Array Oper) (S:World→Prop) (o:Oper) (ρ:Env) (v:Value):Prop :=
  (Xx ops o n ρ=true∧∀ w,S w→Fr P (execOp (Qk n ρ) o) w∧∀ w1,Rel w w1→(execOp (Qk n ρ) o).run P w1=.ok (.value v) w1)∨(Xx ops o n ρ=false∧v=undef)

def TS (P:Program) [JD P] (n:Nat) (ops:List Oper) (S:World→Prop) (Kt:Env→World→Prop):List (Nat×Bool)→Env→World→Prop
  | [],ρ,w=>Kt ρ w
  | (i,false)::rest,ρ,w=>∃ o v,ops[i]?=some o∧Quiet P n ops.toArray S o ρ v∧TS P n ops S Kt rest (Xb ρ o.dst v) w
  | (i,true)::rest,ρ,w=>∃ o,ops[i]?=some o∧Stp P n ops.toArray o ρ w (fun ρ' w'=>S w'∧TS P n ops S Kt rest ρ' w')

def TT (P:Program) [JD P] (n:Nat) (ops:List Oper) (K:Env→World→Prop):List Nat→Env→World→Prop
  | [],ρ,w=>K ρ w
  | i::rest,ρ,w=>∃ o,ops[i]?=some o∧Stp P n ops.toArray o ρ w (TT P n ops K rest)

def Qby (ops:Array Oper):List Nat→Array Bool→Bool
  | [],listed=>(Region.ready .any ops listed).isEmpty
  | i::rest,listed=>Region.ready .any ops listed == [i]&&Qby ops rest (listed.setIfInBounds i true)

def Qco (ops:Array Oper) (m:Nat) (tail:List Nat):List (Nat×Bool)→Array Bool→Bool
  | [],listed=>Qby ops tail listed
  | (i, e) :: rest, listed => Nat.blt i m && (if e then Region.ready .any ops listed == [i] else Region.free .any ops listed i && (Region.ready .any ops listed).contains i) &&
      Qco ops m tail rest (listed.setIfInBounds i true)

def JG (ops:Array Oper):Nat→Nat→Nat→Bool
  | 0,_,_=>false
  | f+1,j,i=>match ops[j]? with
    | some o=>o.after.any (fun e=>Region.binds .any e&&e.on == i)||o.after.any (fun e=>Region.binds .any e&&JG ops f e.on i)
    | none=>false

def Qeg (ops:Array Oper) (m:Nat):Bool :=
  (List.range ops.size).all fun j=>Nat.blt j m||(List.range m).all fun i=>JG ops ops.size j i

def Closed (ops:Array Oper) (listed:Array Bool):Prop:=∀ j oj,ops[j]?=some oj→listed.getD j false=true→∀ e∈oj.after,Region.binds .any e=true→listed.getD e.on false=true

def Zl (listed:Array Bool) (m:Nat):Nat:=((List.range m).filter fun i=>!listed.getD i true).length

def Qmq (ops:Array Oper) (m:Nat) (body:List (Nat×Bool)) (tail:List Nat):Bool :=
  Region.noSelect ops&&Qeg ops m&&Nat.ble m ops.size&&Nat.beq body.length m&&Nat.beq (m+tail.length) ops.size&&Qco ops m tail body (Array.replicate ops.size false)

def YldJ (P:Program) (ops:Array Oper) (S:World→Prop) (o:Oper) (v:Value) (a:Act):Prop :=
  (Region.wanted o (yielded ops a.tmps)=true∧∀ w,S w→Fr P (execOp a.eval o) w∧∀ w1,Rel w w1→(execOp a.eval o).run P w1=.ok (.value v) w1)∨(Region.wanted o (yielded ops a.tmps)=false∧v=undef)
theorem YldJ.of_same {ops:Array Oper} {S:World→Prop} {o:Oper} {v:Value} {a a':Act} (hy:YldJ P ops S o v a) (he:execOp a'.eval o=execOp a.eval o) (hw:Region.wanted o (yielded ops a'.tmps)=Region.wanted o (yielded ops a.tmps)):YldJ P ops S o v a':=by
  unfold YldJ at *
  rw [he,hw]
  exact hy
theorem Quiet.yields {ops:Array Oper} {S:World→Prop} {o:Oper} {v:Value} (h:Quiet P n ops S o ρ v):YldJ P ops S o v (act n ρ):=by
  unfold Quiet Xx at h
  unfold YldJ
  rw [ZA]
  exact h
theorem YldJ.op {ops:Array Oper} {S:World→Prop} {i:Nat} {o:Oper} {v:Value} {a:Act} {w:World} {K:Act→World→Prop} (hy:YldJ P ops S o v a) (hi:ops[i]?=some o) (hS:S w) (h:K (a.put o.dst v) w):Ym (JD.j (P:=P)) ops i K a w:=by
  simp only [Ym,hi]
  rcases hy with ⟨hw,hv⟩ | ⟨hw,rfl⟩
  · rw [if_pos hw];exact ⟨(hv w hS).1,.inl ⟨v,(hv w hS).2,h⟩⟩
  · rw [if_neg (by simp [hw])];exact h
theorem Qqc {ops : Array Oper} {S : World → Prop} {j : Nat} {oi oj : Oper} {v : Value} (hj : ops[j]? = some oj) (hap : oi.apart ops oj = true) (hsi : ∀ cs b, oi.op ≠ .select cs b) (hsj : ∀ cs b, oj.op ≠ .select cs b)
    {K:Act→World→Prop} {a:Act} {w:World} (hy:YldJ P ops S oi v a) (h:Ym (JD.j (P:=P)) ops j K (a.put oi.dst v) w):Ym (JD.j (P:=P)) ops j (fun a' w'=>YldJ P ops S oi v a'∧K (a'.put oi.dst v) w') a w:=by
  obtain ⟨h1,h2,h3⟩:=Oper.apart_spec hap
  have keep:∀ (a:Act),YldJ P ops S oi v a→∀ u,YldJ P ops S oi v (a.put oj.dst u):=fun a hy u=>hy.of_same (execOp_put oi hsi a oj.dst u h3) (wanted_put oi a oj.dst u h3)
  unfold Ym at *
  simp only [hj] at *
  rw [wanted_put oj a oi.dst v h1] at h
  split
  · rename_i hw
    simp only [hw,if_true] at h
    rw [execOp_put oj hsj a oi.dst v h1] at h
    refine ⟨h.1,h.2.imp (fun ⟨u,h4,h5⟩=>⟨u,h4,keep a hy u,by rw [← Act.put_comm a v u h2];exact h5⟩) (fun h w1 r=>?_)⟩
    have h6:=h w1 r
    generalize (execOp a.eval oj).run P w1=x at h6
    match x,h6 with
    | .ok (.value u) w',h6=>exact ⟨keep a hy u,by rw [← Act.put_comm a v u h2];exact h6⟩
    | .ok .skip w',h6=>exact ⟨keep a hy _,by rw [← Act.put_comm a v undef h2];exact h6⟩
    | .ok (.enter f args) w',h6=>exact CallsJ.mono h6 fun u w'' hv=>⟨keep a hy u,by rw [← Act.put_comm a v u h2];exact hv⟩
  · rename_i hw
    simp only [hw] at h
    exact ⟨keep a hy _,by rw [← Act.put_comm a v undef h2];exact h⟩

def J6 (P:Program) [JD P] (ops:Array Oper) (S:World→Prop) (Kt:Array Bool→Act→World→Prop):Nat→Array Bool→Act→World→Prop
  | 0,listed,a,w=>Kt listed a w
  | fuel+1,listed,a,w=>Region.ready .any ops listed≠[]∧∀ i∈Region.ready .any ops listed,Ym (JD.j (P:=P)) ops i (fun a' w'=>S w'∧J6 P ops S Kt fuel (listed.setIfInBounds i true) a' w') a w

theorem Qtc {listed:Array Bool} {m i j:Nat} (hi:i < m) (hj:j < m) (hne:i≠j) (h1:listed.getD i true=false) (h2:listed.getD j true=false):2≤Zl listed m:=by
  unfold Zl
  have hsub:[i,j].Sublist ((List.range m).filter fun i=>!listed.getD i true)∨[j,i].Sublist ((List.range m).filter fun i=>!listed.getD i true):=by
    have hs:((List.range m).filter fun i=>!listed.getD i true).Pairwise (· < ·):=List.Pairwise.filter _ List.pairwise_lt_range
    have hmi:i∈(List.range m).filter fun i=>!listed.getD i true:=by simp only [List.mem_filter,List.mem_range,hi,h1];simp
    have hmj:j∈(List.range m).filter fun i=>!listed.getD i true:=by simp only [List.mem_filter,List.mem_range,hj,h2];simp
    revert hs hmi hmj
    generalize (List.range m).filter (fun i=>!listed.getD i true)=l
    intro hs hmi hmj
    induction l with
    | nil=>cases hmi
    | cons x xs ih =>
      rcases List.mem_cons.1 hmi with rfl | hmi'
      · rcases List.mem_cons.1 hmj with rfl | hmj'
        · exact absurd rfl hne
        · exact .inl (List.Sublist.cons_cons _ (by simpa using hmj'))
      · rcases List.mem_cons.1 hmj with rfl | hmj'
        · exact .inr (List.Sublist.cons_cons _ (by simpa using hmi'))
        · rcases ih (List.pairwise_cons.1 hs).2 hmi' hmj' with h | h
          · exact .inl (h.cons _)
          · exact .inr (h.cons _)
  rcases hsub with h | h<;>simpa using h.length_le

theorem Y6 {listed:Array Bool} {m i:Nat} (hi:i < m) (h1:listed.getD i true=false):Zl listed m=Zl (listed.setIfInBounds i true) m+1:=by
  unfold Zl
  have hil:i < listed.size:=by
    rcases Nat.lt_or_ge i listed.size with h | h
    · exact h
    · simp [Array.getD,Nat.not_lt.2 h] at h1
  have key:∀ l:List Nat,l.Nodup→i∈l→(l.filter fun k=>!listed.getD k true).length=(l.filter fun k=>!(listed.setIfInBounds i true).getD k true).length+1:=by
    intro l
    induction l with
    | nil=>intro _ h;cases h
    | cons x xs ih =>
      intro hnd hmem
      have hnd':=List.nodup_cons.1 hnd
      by_cases hx:x=i
      · subst hx
        have e1:(listed.setIfInBounds x true).getD x true=true:=by simp [Array.getD,hil]
        have e2:xs.filter (fun k=>!listed.getD k true)=xs.filter (fun k=>!(listed.setIfInBounds x true).getD k true):=by
          apply List.filter_congr
          intro k hk
          have:x≠k:=fun e=>hnd'.1 (e▸hk)
          rw [getD_set_ne true this]
        rw [List.filter_cons_of_pos (by simp [h1]),List.filter_cons_of_neg (by simp [e1]),e2];rfl
      · have hm:i∈xs:=by rcases List.mem_cons.1 hmem with h | h;exact absurd h.symm hx;exact h
        have:=ih hnd'.2 hm
        have e:(listed.setIfInBounds i true).getD x true=listed.getD x true:=getD_set_ne true (Ne.symm hx)
        by_cases hb:listed.getD x true=false
        · rw [List.filter_cons_of_pos (by simp [hb]),List.filter_cons_of_pos (by rw [e];simp [hb])];simp only [List.length_cons,this]
        · rw [List.filter_cons_of_neg (by simp [hb]),List.filter_cons_of_neg (by rw [e];simp [hb])];exact this
  exact key _ List.nodup_range (by simpa using hi)

theorem Qjm {ops:Array Oper} {listed:Array Bool} (hc:Closed ops listed):∀ (f j i:Nat) (oj:Oper),ops[j]?=some oj→(∀ e∈oj.after,Region.binds .any e=true→listed.getD e.on false=true)→JG ops f j i=true→listed.getD i false=true
  | 0,_,_,_,_,_,h=>by cases h
  | f+1,j,i,oj,hj,hall,h=>by
    simp only [JG,hj,Bool.or_eq_true] at h
    rcases h with h | h
    · obtain ⟨e,he,hb⟩:=Array.any_eq_true'.1 h
      simp only [Bool.and_eq_true,beq_iff_eq] at hb
      rw [← hb.2];exact hall e he hb.1
    · obtain ⟨e,he,hb⟩:=Array.any_eq_true'.1 h
      simp only [Bool.and_eq_true] at hb
      have hl:=hall e he hb.1
      cases ho:ops[e.on]? with
      | none =>
        have h2:=hb.2
        cases f with
        | zero=>cases h2
        | succ f=>simp [JG,ho] at h2
      | some o'=>exact Qjm hc f e.on i o' ho (hc _ _ ho hl) hb.2

theorem Closed.none (ops:Array Oper) (k:Nat):Closed ops (Array.replicate k false):=fun j oj _ h=>by
  by_cases hj:j < k<;>simp [Array.getD,hj] at h

theorem Closed.set {ops:Array Oper} {listed:Array Bool} {j:Nat} (hc:Closed ops listed) (hj:j∈Region.ready .any ops listed):Closed ops (listed.setIfInBounds j true):=fun k ok hk hl e he hb=>by
  obtain ⟨_,oj,hoj,hall⟩:=mem_ready.1 hj
  by_cases hjk:j=k
  · subst hjk
    rw [hoj] at hk;cases hk
    exact getD_set_true (hall e he hb)
  · rw [getD_set_ne false hjk] at hl
    exact getD_set_true (hc k ok hk hl e he hb)

theorem Qtj {ops:Array Oper} {m:Nat} (h:Qeg ops m=true) {listed:Array Bool} (hc:Closed ops listed) {j i:Nat} (hj:j∈Region.ready .any ops listed) (hi:i < m) (hu:listed.getD i true=false) (his:i < listed.size):j < m:=by
  rcases Nat.lt_or_ge j m with hlt | hge
  · exact hlt
  · exfalso
    obtain ⟨hju,oj,hoj,hall⟩:=mem_ready.1 hj
    have hjs:j < ops.size:=(Array.getElem?_eq_some_iff.1 hoj).1
    simp only [Qeg,List.all_eq_true,List.mem_range] at h
    have h1:=h j hjs
    simp only [Qpi hge,Bool.false_or,List.all_eq_true,List.mem_range] at h1
    have h2:=Qjm hc _ _ _ _ hoj hall (h1 i hi)
    simp [Array.getD,his] at hu h2
    rw [hu] at h2;cases h2

theorem Qus {ops : Array Oper} {S : World → Prop} {Kt : Array Bool → Act → World → Prop} {m i : Nat} {oi : Oper} {v : Value} (hi : ops[i]? = some oi) (him : i < m) (hw : Qeg ops m = true)
    (hsel:∀ (j:Nat) (o:Oper) cs b,ops[j]?=some o→o.op≠.select cs b) :
    ∀ (fuel:Nat) (listed:Array Bool) (a:Act) (w:World),listed.size=ops.size→Closed ops listed→fuel+1=Zl listed m →
      (∀ j oj,ops[j]?=some oj→j≠i→listed.getD j true=false→(∀ e∈oj.after,Region.binds .any e=true→e.on≠i)→oi.apart ops oj=true) →
      i∈Region.ready .any ops listed→YldJ P ops S oi v a→S w →
      J6 P ops S Kt fuel (listed.setIfInBounds i true) (a.put oi.dst v) w→J6 P ops S Kt (fuel+1) listed a w:=by
  intro fuel
  induction fuel with
  | zero =>
    intro listed a w hls hcl hcnt _ hr hy hS H
    refine ⟨fun h=>(by rw [h] at hr;cases hr),fun j hj=>?_⟩
    by_cases hji:j=i
    · subst hji;exact hy.op hi hS ⟨hS,H⟩
    · exfalso
      have hiu:=(mem_ready.1 hr).1
      have hjm:j < m:=Qtj hw hcl hj him (by simpa using hiu) (by rw [hls];exact (Array.getElem?_eq_some_iff.1 hi).1)
      have:=Qtc (listed:=listed) hjm him hji (by simpa using (mem_ready.1 hj).1) (by simpa using hiu)
      omega
  | succ fuel ih =>
    intro listed a w hls hcl hcnt hfree hr hy hS H
    refine ⟨fun h=>(by rw [h] at hr;cases hr),fun j hj=>?_⟩
    by_cases hji:j=i
    · subst hji;exact hy.op hi hS ⟨hS,H⟩
    · have hiu:=(mem_ready.1 hr).1
      have hjm:j < m:=Qtj hw hcl hj him (by simpa using hiu) (by rw [hls];exact (Array.getElem?_eq_some_iff.1 hi).1)
      have h1:=H.2 j (ready_mono hj hji)
      obtain ⟨hjun,oj,hoj,hall⟩:=mem_ready.1 hj
      have hnot:∀ e∈oj.after,Region.binds .any e=true→e.on≠i:=fun e he hb heq=>by
        have h1:=hall e he hb
        have h0:=(mem_ready.1 hr).1
        rw [heq] at h1
        rcases Nat.lt_or_ge i listed.size with h' | h'
        · simp [h'] at h0 h1;rw [h0] at h1;cases h1
        · simp [Array.getElem?_eq_none h'] at h1
      have h2:=Qqc hoj (hfree j oj hoj hji hjun hnot) (fun cs b=>hsel i oi cs b hi) (fun cs b=>hsel j oj cs b hoj) hy h1
      have hfree' : ∀ k ok, ops[k]? = some ok → k ≠ i → (listed.setIfInBounds j true).getD k true = false →
          (∀ e∈ok.after,Region.binds .any e=true→e.on≠i)→oi.apart ops ok=true:=fun k ok hk hki hun hno=>by
        refine hfree k ok hk hki ?_ hno
        by_cases hjk:j=k
        · subst hjk;exact hjun
        · rw [getD_set_ne true hjk] at hun;exact hun
      refine Qgd (fun a' w' h3=>⟨h3.2.1,ih (listed.setIfInBounds j true) a' w' (by simpa using hls) (hcl.set hj) (by have:=Y6 (listed:=listed) hjm (by simpa using hjun);omega) hfree' (ready_mono hr (Ne.symm hji)) h3.1 h3.2.1 ?_⟩) h2
      rw [Array.setIfInBounds_comm _ _ hji]
      exact h3.2.2

theorem Qld (k m:Nat) (h:m≤k):Zl (Array.replicate k false) m=m:=by
  unfold Zl
  rw [List.filter_eq_self.2]
  · simp
  · intro a ha
    have:a < k:=Nat.lt_of_lt_of_le (by simpa using ha) h
    simp [Array.getD,this]

/-! ### Functions -/

def Qhj (P:Program) (ρ:Env) (w:World) (r:ResultVar) (v:Value):Prop :=
  match r with
  | .tmp t=>ρ t=v
  | .cell a t=>∃ ad,ρ a=.pointer (some ad)∧∀ w1,Rel w w1→(loadVar t ad).run P w1=.ok v w1

def Zc (P:Program) (ρ:Env) (w:World):List ResultVar→List Value→Prop
  | [],[]=>True
  | r::rs,v::vs=>Qhj P ρ w r v∧Zc P ρ w rs vs
  | _,_=>False

def X8:List ResultVar→Nat→Bool
  | [],_=>true
  | .tmp t::rs,n=>Nat.blt t n&&X8 rs n
  | .cell a _::rs,n=>Nat.blt a n&&X8 rs n

theorem Qiq {t:Nat} (h:Nat.blt t n=true):(act n ρ).tmps.getD t undef=ρ t:=by
  have:t < n:=by simpa [Nat.blt_eq] using h
  simp [act,Array.getD,this]

def YI (vs:List Value):Value:=match vs with | [v]=>v | vs=>.tuple vs.toArray

def JA (tmps:Array Value):ResultVar→Sem Value
  | .tmp t=>pure (tmps.getD t undef)
  | .cell a t=>do loadVar t (← asAddr (tmps.getD a undef))

theorem Qqr (fn:Func) (tmps:Array Value):results fn tmps=(do let vs ← fn.results.mapM (JA tmps);pure (if h:vs.size=1 then vs[0] else .tuple vs)):=by
  unfold results
  congr 1

theorem QGn {r:ResultVar} {v:Value} {w1:World} (hw:Rel w w1) (hm:X8 [r] n=true) (h:Qhj P ρ w r v):(JA (act n ρ).tmps r).run P w1=.ok v w1:=by
  cases r with
  | tmp t =>
    simp only [X8,Bool.and_true] at hm
    have h:ρ t=v:=h
    simp only [JA,Qiq hm,h,Sem.run_pure]
  | cell a t =>
    simp only [X8,Bool.and_true] at hm
    obtain ⟨ad,h1,h3⟩:=h
    simp only [JA,Qiq hm,h1,asAddr,pure_bind,h3 w1 hw]

theorem Qdi {fn:Func} {rs:List ResultVar} {vs:List Value} (hr:fn.results=rs.toArray) (hm:X8 rs n=true) {w1:World} (hw:Rel w w1) (h:Zc P ρ w rs vs):(results fn (act n ρ).tmps).run P w1=.ok (YI vs) w1:=by
  have key:∀ (rs:List ResultVar) (vs:List Value),X8 rs n=true→Zc P ρ w rs vs→(rs.mapM (JA (act n ρ).tmps)).run P w1=.ok vs w1:=by
    intro rs
    induction rs with
    | nil=>intro vs _ h;cases vs with | nil=>rfl | cons v vs=>exact h.elim
    | cons r rs ih =>
      intro vs hm h
      cases vs with
      | nil=>exact h.elim
      | cons v vs =>
        obtain ⟨h1,h2⟩:=h
        have hm1:X8 [r] n=true∧X8 rs n=true:=by
          cases r<;>simpa only [X8,Bool.and_eq_true,Bool.and_true] using hm
        simp only [List.mapM_cons,Sem.run_bind,QGn hw hm1.1 h1,ih vs hm1.2 h2,Result.andThen,Sem.run_pure]
  have k:=key rs vs hm h
  rw [Qqr,hr,List.mapM_toArray]
  simp only [map_eq_pure_bind,Sem.run_bind,k,Result.andThen,Sem.run_pure]
  cases vs with
  | nil=>simp [YI]
  | cons v vs=>cases vs<;>simp [YI]

theorem QJg {r:ResultVar} {v:Value} (hm:X8 [r] n=true) (h:Qhj P ρ w r v):Tame P (JA (act n ρ).tmps r):=by
  cases r with
  | tmp t=>exact Tame.pure _
  | cell a t =>
    simp only [X8,Bool.and_true] at hm
    obtain ⟨ad,h1,h3⟩:=h
    simp only [JA,Qiq hm,h1,asAddr,pure_bind]
    exact Qsw t ad
theorem Qec {fn:Func} {rs:List ResultVar} {vs:List Value} (hr:fn.results=rs.toArray) (hm:X8 rs n=true) (h:Zc P ρ w rs vs):Tame P (results fn (act n ρ).tmps):=by
  have key:∀ (rs:List ResultVar) (vs:List Value),X8 rs n=true→Zc P ρ w rs vs→Tame P (rs.mapM (JA (act n ρ).tmps)):=by
    intro rs
    induction rs with
    | nil=>intro vs _ h;exact Tame.pure _
    | cons r rs ih =>
      intro vs hm h
      cases vs with
      | nil=>exact h.elim
      | cons v vs =>
        obtain ⟨h1,h2⟩:=h
        have hm1:X8 [r] n=true∧X8 rs n=true:=by
          cases r<;>simpa only [X8,Bool.and_eq_true,Bool.and_true] using hm
        rw [List.mapM_cons]
        exact .bnd (QJg hm1.1 h1) fun a=>.bnd (ih vs hm1.2 h2) fun b=>.pure _
  rw [Qqr,hr,List.mapM_toArray]
  exact .bnd (by rw [map_eq_pure_bind];exact .bnd (key rs vs hm h) fun a=>.pure _) fun a=>.pure _

theorem QP {f : FuncId} {fn : Func} {c : Code} {args : List Value} {rs : List ResultVar} {Φ : Value → World → Prop} (hf : P.funcs[f]? = some fn) (hb : fn.body = some c) (hn : fn.ntmps = n) (hl : Nat.ble args.length n = true)
    (hr:fn.results=rs.toArray) (hm:X8 rs n=true)
    (h:WC P n c ⟨fun _ _=>False,fun _ _ _=>False,fun ρ w=>∃ vs,Zc P ρ w rs vs∧Φ (YI vs) w⟩ (fun i=>args.getD i undef) w):CallsTo P f args w Φ:=by
  refine Qic hf hb ?_
  have hl:args.length≤n:=by simpa using hl
  rw [hn]
  have:=Qbb args n hl
  rw [this]
  refine JS h fun e a w he=>?_
  cases e<;>first
    | exact he.elim
    | (obtain ⟨_,_,hf⟩:=he;exact hf.elim)
    | (obtain ⟨ρ, rfl, vs, hv, hΦ⟩ := he
       exact ⟨rfl,Qec hr hm hv,_,fun w1 r=>Qdi hr hm r hv,hΦ⟩)

end
end Go.Gw
