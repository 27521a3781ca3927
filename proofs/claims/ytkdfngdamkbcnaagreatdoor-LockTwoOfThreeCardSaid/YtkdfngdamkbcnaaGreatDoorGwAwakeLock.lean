/- Laws of the walk. Condition: each theorem says its own. -/
import Derived.Test.YtkdfngdamkbcnaaGreatDoorGwOnA
import Derived.Test.YtkdfngdamkbcnaaGreatDoorGwLib21
set_option linter.unusedVariables false
set_option linter.unusedSimpArgs false
set_option linter.unusedSectionVars false
section
set_option maxRecDepth 100000
namespace Go.Gw
open Go
theorem QCh:Qou=some true:=by decide +kernel
end Go.Gw

end
section
set_option linter.unusedSectionVars false
namespace Go.Gw
section
variable {α β γ σ ρ:Type}
def XY (p:α->Bool) (res:Nat->α->ρ):Nat->List α->ρ⊕Unit
 | _,[]=>.inr ()
 | k,x::xs=>if p x then .inl (res k x) else XY p res (k+1) xs
theorem Zw {step:Int->Option (Int⊕(ρ⊕Unit))} (xs:List α) (p:α->Bool) (res:Nat->α->ρ)
  (hs:∀ k (hk:k < xs.length),step (k:Int)=(bif p xs[k] then some (.inr (.inl (res k xs[k]))) else some (.inl ((k+1:Nat):Int))))
  (he:step (xs.length:Int)=some (.inr (.inr ()))):loop step 0=some (XY p res 0 xs):=by
 have key:∀ j k,j+k=xs.length->loop step (k:Int)=some (XY p res k (xs.drop k)):=by
  intro j
  induction j with
  | zero =>
   intro k hk;obtain rfl:k=xs.length:=by omega
   rw [List.drop_length];exact Qet he
  | succ j ih =>
   intro k hk;have hlt:k < xs.length:=by omega
   rw [List.drop_eq_getElem_cons hlt];have:=hs k hlt;cases hp:p xs[k] with
   | true=>simp_all [Qet,XY,if_true]
   | false=>grind [Qdd,XY]
 have:=key xs.length 0 (by omega);trivial

def fld (f:Nat->γ->α->γ):Nat->γ->List α->γ
 | _,a,[]=>a
 | k,a,x::xs=>fld f (k+1) (f k a x) xs
theorem QJo {step:σ->Option (σ⊕β)} (xs:List α) (f:Nat->γ->α->γ) (S:γ->Nat->σ) (o:γ->β) (Inv:γ->Nat->Prop) (a0:γ) (h0:Inv a0 0)
  (hs:∀ k (hk:k < xs.length) a,Inv a k->step (S a k)=some (.inl (S (f k a xs[k]) (k+1)))/\Inv (f k a xs[k]) (k+1))
  (he:∀ a,Inv a xs.length->step (S a xs.length)=some (.inr (o a))):loop step (S a0 0)=some (o (fld f 0 a0 xs))/\Inv (fld f 0 a0 xs) xs.length:=by
 have key:∀ j k a,j+k=xs.length->Inv a k->loop step (S a k)=some (o (fld f k a (xs.drop k)))/\Inv (fld f k a (xs.drop k)) xs.length:=by
  intro j
  induction j with
  | zero =>
   intro k a hk hI;obtain rfl:k=xs.length:=by omega
   rw [List.drop_length];exact ⟨Qet (he a hI),hI⟩
  | succ j ih =>
   intro k a hk hI;have hlt:k < xs.length:=by omega
   rw [List.drop_eq_getElem_cons hlt];have:=hs k hlt a hI;rw [Qdd this.1];exact ih (k+1) _ (by omega) this.2
 have:=key xs.length 0 a0 (by omega) h0;trivial

theorem Yw (k:Nat) (h:k < 4611686018427387904):w64 ((k:Int)+1)=((k+1:Nat):Int):=by grind [Yz]
theorem Yu {k n:Nat} (h:k < n):decide ((k:Int) < (n:Int))=true:=by simp;omega
theorem Yx (n:Nat):decide ((n:Int) < (n:Int))=false:=by simp
end
end Go.Gw

end
section
set_option maxRecDepth 4096
namespace Go.Gw
open Go
def Zc:List Int->Int
 | []=>0
 | x::xs=>if x=0 then Zc xs else x
theorem Zb (l:List Int) (hl:l.length < 1073741824):Zj l=some (Zc l):=by
  unfold Zj;rw [Zw l (fun x=>!decide (x=0)) (fun _ x=>x)]
  · have key : ∀ (l : List Int) k, (Xy (XY (fun x => !decide (x = 0)) (fun _ x => x) k l) fun (_ : Unit) => some 0) = some (Zc l) := by
      intro l
      induction l with
      | nil=>intro k;rfl
      | cons x xs ih =>
        intro k;by_cases h:x=0
        · simp [XY,Zc,h];exact ih _
        · simp [XY,Zc,h,Xy]
    simpa using key l 0
  · intro k hk;unfold Qpe;rw [Yu hk,XV hk,Yw k (by omega)];rfl
  · unfold Qpe;rw [Yx];rfl
theorem X7 (b:Bool) (e:Int):XR b e=some (bif b then 0 else e):=by cases b<;>rfl
theorem Qsf (n lo hi:Int):Z5 n lo hi=some (decide (lo<=n)&&decide (n<=hi)):=rfl
theorem QHd (n:Int):Qdb n=some (decide (0<=n)&&decide (n<=6)):=rfl
def Z0 (t:Nd):Int:=Int.tmod (w64 (w64 (w64 (w64 (0+w64 (1 * w64 (t.e0+1)))+w64 (2 * w64 (t.e1+1)))+w64 (3 * w64 (t.e2+1)))+w64 (4 * w64 (t.e3+1)))) 251
theorem Qts (t:Nd):Qgs t=some (Z0 t):=by
 unfold Qgs;rw [loop_iff.2 ⟨5,(by rfl:Yh (Qvs t) 5 (0,0)=some _)⟩];rfl
end Go.Gw

end
section
set_option maxRecDepth 4096
namespace Go.Gw
open Go
def JW (n:Int):Bool:=decide (0<=n)&&decide (n<=6)
def Q7 (n:Int):Bool:=decide (0<=n)&&decide (n<=250)
def tel (e:Nn) (c:Int):Nd×Int:=bif JW e.Kind then (bif (Q7 e.A&&Q7 e.B)&&Q7 c then (Nd.mk e.Kind e.A e.B c (Z0 (Nd.mk e.Kind e.A e.B c 0)),0) else (Nd.mk 0 0 0 0 0,2)) else (Nd.mk 0 0 0 0 0,15)
theorem QSd (e:Nn) (c:Int):Qgq e c=some (tel e c):=by
 have k1:Qdb e.Kind=some (JW e.Kind):=rfl;have a1:JC e.A=some (Q7 e.A):=rfl;have b1:JC e.B=some (Q7 e.B):=rfl;have c1:JC c=some (Q7 c):=rfl;unfold Qgq tel;rw [k1,a1,b1,c1];cases JW e.Kind<;>cases Q7 e.A<;>cases Q7 e.B<;>cases Q7 c<;>simp [X7,Zb,Zc,Qts]
def XI (t:Nd):Int:=bif Q7 t.e0&&(Q7 t.e1&&(Q7 t.e2&&(Q7 t.e3&&Q7 t.e4))) then (bif decide (t.e4=Z0 t) then (bif JW t.e0 then 0 else 15) else 21) else 2
theorem QCr (t:Nd):Qmb [t.e0,t.e1,t.e2,t.e3,t.e4]=some (!(Q7 t.e0&&(Q7 t.e1&&(Q7 t.e2&&(Q7 t.e3&&Q7 t.e4))))):=by
 have h:∀ n,Qpp n=some (!Q7 n):=fun n=>rfl
 have key:loop (Qce [t.e0,t.e1,t.e2,t.e3,t.e4]) 0=some (bif Q7 t.e0 then bif Q7 t.e1 then bif Q7 t.e2 then bif Q7 t.e3 then bif Q7 t.e4 then .inr () else .inl 4 else .inl 3 else .inl 2 else .inl 1 else .inl 0):=by
  refine loop_iff.2 ⟨6,?_⟩;have s0:Qce [t.e0,t.e1,t.e2,t.e3,t.e4] 0=bif !Q7 t.e0 then some (.inr (.inl 0)) else some (.inl 1):=rfl
  have s1:Qce [t.e0,t.e1,t.e2,t.e3,t.e4] 1=bif !Q7 t.e1 then some (.inr (.inl 1)) else some (.inl 2):=rfl
  have s2:Qce [t.e0,t.e1,t.e2,t.e3,t.e4] 2=bif !Q7 t.e2 then some (.inr (.inl 2)) else some (.inl 3):=rfl
  have s3:Qce [t.e0,t.e1,t.e2,t.e3,t.e4] 3=bif !Q7 t.e3 then some (.inr (.inl 3)) else some (.inl 4):=rfl
  have s4:Qce [t.e0,t.e1,t.e2,t.e3,t.e4] 4=bif !Q7 t.e4 then some (.inr (.inl 4)) else some (.inl 5):=rfl
  have s5:Qce [t.e0,t.e1,t.e2,t.e3,t.e4] 5=some (.inr (.inr ())):=rfl;cases h0:Q7 t.e0<;>cases h1:Q7 t.e1<;>cases h2:Q7 t.e2<;>cases h3:Q7 t.e3<;>cases h4:Q7 t.e4<;>simp [Yh,s0,s1,s2,s3,s4,s5,h0,h1,h2,h3,h4]
 unfold Qmb Qrf;rw [key];cases Q7 t.e0<;>cases Q7 t.e1<;>cases Q7 t.e2<;>cases Q7 t.e3<;>cases Q7 t.e4<;>rfl
theorem QAd (t:Nd):Qer t=some (XI t):=by
 have k1:Qdb t.e0=some (JW t.e0):=rfl;unfold Qer XI;rw [QCr,Qts,k1];by_cases hc:t.e4=Z0 t
 all_goals cases (Q7 t.e0&&(Q7 t.e1&&(Q7 t.e2&&(Q7 t.e3&&Q7 t.e4))))<;>cases JW t.e0<;>simp [X7,Zb,Zc,hc]
def evt (t:Nd):Nn×Int×Int:=if XI t=0 then (Nn.mk t.e0 t.e1 t.e2,t.e3,0) else (Nn.mk 0 0 0,0,XI t)
theorem Qum (t:Nd):Qgo t=some (evt t):=by
 unfold Qgo evt;rw [QAd,Qq];by_cases h:XI t=0
 ·simp [h]
 ·simp [h]
end Go.Gw

end
section
set_option maxRecDepth 4096
namespace Go.Gw
open Go
attribute [local irreducible] loop
def JK (a b c:Nd):Option Nd:=if XI a=0/\(a=b\/a=c) then some a else if XI b=0/\(b=a\/b=c) then some b else if XI c=0/\(c=a\/c=b) then some c else none
theorem QEo (t:Nd):(evt t).2.2=XI t:=by
 unfold evt;by_cases h:XI t=0<;>simp [h]
theorem QGn:Qqz 2=some []:=by rfl
theorem QDa (x y:List Nd) (b c:Nd) (h:x++y=[b,c]):Qib [x,y]=some [b,c]:=by
 have hs:Yh (Qyt [x,y]) 3 (0,0)=some 2:=by
  match x,y,h with
  | [],[b',c'],h=>rfl
  | [b'],[c'],h=>rfl
  | [b',c'],[],h=>rfl
 have h2:Yh (Qyu [x,y]) 3 ([],0)=some [b,c]:=by
  match x,y,h with
  | [],[b',c'],h=>cases h;rfl
  | [b'],[c'],h=>cases h;rfl
  | [b',c'],[],h=>cases h;rfl
 unfold Qib;rw [loop_iff.2 ⟨3,hs⟩,Qq,QGn,Qq,loop_iff.2 ⟨3,h2⟩];rfl
theorem QDc (b c v:Nd):Qic [b,c] v=some (decide (v=b)||decide (v=c)):=by
 have h:loop (Qid [b,c] v) 0=some (bif decide (v=b) then .inl 0 else bif decide (v=c) then .inl 1 else .inr ()):=by
  refine loop_iff.2 ⟨3,?_⟩;have s0:Qid [b,c] v 0=bif decide (v=b) then some (.inr (.inl 0)) else some (.inl 1):=rfl
  have s1:Qid [b,c] v 1=bif decide (v=c) then some (.inr (.inl 1)) else some (.inl 2):=rfl
  have s2:Qid [b,c] v 2=some (.inr (.inr ())):=rfl;generalize decide (v=b)=d1 at s0 ⊢;generalize decide (v=c)=d2 at s1 ⊢;cases d1<;>cases d2<;>simp [Yh,s0,s1,s2]
 unfold Qic Qri;rw [h];cases decide (v=b)<;>cases decide (v=c)<;>rfl
noncomputable def vb (el:Nd) (l:List (List Nd)) (i:Int):Option (Int⊕((Nd×Int)⊕Unit)):=Option.bind (Qib l) fun r709=>Option.bind (Qer el) fun r720=>Option.bind (bif (decide (r720=0)) then Qic r709 el else some default) fun r728=>bif ((decide (r720=0))&&r728) then some (.inr (.inl (el,0))) else some (.inl (w64 (i+1)))
theorem Qsc {x y:List Nd} {b c el:Nd} {i:Int} (h:x++y=[b,c]):vb el [x,y] i=bif decide (XI el=0)&&(decide (el=b)||decide (el=c)) then some (.inr (.inl (el,0))) else some (.inl (w64 (i+1))):=by
 unfold vb;rw [QDa x y b c h,Qq,QAd,Qq,QDc];cases decide (XI el=0)<;>rfl
def Qir (t:Nz):Nd×Int:=match JK t.e0 t.e1 t.e2 with
 | some x=>(x,0)
 | none=>(Nd.mk 0 0 0 0 0,12)
theorem QAj (t:Nz):Qgr t=some (Qir t):=by
 have s0:Qel t 0=vb t.e0 [[],[t.e1,t.e2]] 0:=rfl;have s1:Qel t 1=vb t.e1 [[t.e0],[t.e2]] 1:=rfl;have s2:Qel t 2=vb t.e2 [[t.e0,t.e1],[]] 2:=rfl;have s3:Qel t 3=some (.inr (.inr ())):=rfl;rw [Qsc (b:=t.e1) (c:=t.e2) rfl] at s0;rw [Qsc (b:=t.e0) (c:=t.e2) rfl] at s1;rw [Qsc (b:=t.e0) (c:=t.e1) rfl] at s2;unfold Qgr Qir JK;have key:loop (Qel t) 0=some (bif decide (XI t.e0=0)&&(decide (t.e0=t.e1)||decide (t.e0=t.e2)) then .inl (t.e0,0) else bif decide (XI t.e1=0)&&(decide (t.e1=t.e0)||decide (t.e1=t.e2)) then .inl (t.e1,0) else bif decide (XI t.e2=0)&&(decide (t.e2=t.e0)||decide (t.e2=t.e1)) then .inl (t.e2,0) else .inr ()):=by
  refine loop_iff.2 ⟨4,?_⟩;generalize (decide (XI t.e0=0)&&(decide (t.e0=t.e1)||decide (t.e0=t.e2)))=d0 at s0 ⊢;generalize (decide (XI t.e1=0)&&(decide (t.e1=t.e0)||decide (t.e1=t.e2)))=d1 at s1 ⊢;generalize (decide (XI t.e2=0)&&(decide (t.e2=t.e0)||decide (t.e2=t.e1)))=d2 at s2 ⊢;have w1:w64 (0+1)=1:=rfl;have w2:w64 (1+1)=2:=rfl;have w3:w64 (2+1)=3:=rfl;rw [w1] at s0;rw [w2] at s1;rw [w3] at s2;cases d0<;>cases d1<;>cases d2<;>simp [Yh,s0,s1,s2,s3]
 rw [key];have e0:(decide (XI t.e0=0)&&(decide (t.e0=t.e1)||decide (t.e0=t.e2)))=decide (XI t.e0=0/\(t.e0=t.e1\/t.e0=t.e2)):=by simp
 have e1:(decide (XI t.e1=0)&&(decide (t.e1=t.e0)||decide (t.e1=t.e2)))=decide (XI t.e1=0/\(t.e1=t.e0\/t.e1=t.e2)):=by simp
 have e2:(decide (XI t.e2=0)&&(decide (t.e2=t.e0)||decide (t.e2=t.e1)))=decide (XI t.e2=0/\(t.e2=t.e0\/t.e2=t.e1)):=by simp
 rw [e0,e1,e2];by_cases h0:XI t.e0=0/\(t.e0=t.e1\/t.e0=t.e2)
 ·rw [decide_eq_true h0,if_pos h0];rfl
 rw [decide_eq_false h0,if_neg h0];by_cases h1:XI t.e1=0/\(t.e1=t.e0\/t.e1=t.e2)
 ·rw [decide_eq_true h1,if_pos h1];rfl
 rw [decide_eq_false h1,if_neg h1];by_cases h2:XI t.e2=0/\(t.e2=t.e0\/t.e2=t.e1)
 ·rw [decide_eq_true h2,if_pos h2];rfl
 rw [decide_eq_false h2,if_neg h2];rfl
end Go.Gw

end
section
set_option maxRecDepth 4096
namespace Go.Gw
open Go
attribute [local irreducible] loop
end Go.Gw

end
section
set_option maxRecDepth 4096
namespace Go.Gw
open Go
attribute [local irreducible] loop
theorem Qig {α:Type} (p:α->Bool):∀ (l:List α) (k:Nat),(Xy (β:=Int) (XY p (fun k _=>(k:Int)) k l) fun (_:Unit)=>some (-1))=some (match XY p (fun k _=>(k:Int)) k l with | .inl i=>i | .inr _=>-1)
 | l,k=>by cases XY p (fun k _=>(k:Int)) k l<;>rfl
theorem Qif {α:Type} (p:α->Bool):∀ (l:List α) (k:Nat),decide (0<=(match XY p (fun k _=>(k:Int)) k l with | .inl i=>i | .inr _=>(-1:Int)))=l.any p
 | [],k=>by simp [XY]
 | x::xs,k=>by
  by_cases h:p x=true
  ·simp [XY,h]
  ·simp only [XY,h,List.any_cons];have:=Qif p xs (k+1);simpa [h] using this
theorem Qam {α ρ:Type} {p:α->Bool} {res:Nat->α->ρ}:∀ (l:List α) (k:Nat),(XY p res k l=.inr ()/\l.any p=false)\/∃ j x,XY p res k l=.inl (res j x)/\p x=true/\l.any p=true
 | [],k=>.inl ⟨rfl,rfl⟩
 | x::xs,k=>by
  by_cases h:p x=true
  ·exact .inr ⟨k,x,by simp [XY,h],h,by simp [h]⟩
  ·rcases Qam xs (k+1) (p:=p) (res:=res) with ⟨h1,h2⟩ | ⟨j,y,h1,h2,h3⟩
   ·exact .inl ⟨by simp [XY,h,h1],by simp [h,h2]⟩
   ·exact .inr ⟨j,y,by simp [XY,h,h1],h2,by simp [h3]⟩
def XJ (f:Nat->Int) (n:Nat):Option Nat:=(List.range n).find? fun i=>decide (f i≠0)
theorem Qju (f:Nat->Int) (n:Nat):(XJ f n=none/\∀ j,j < n->f j=0)\/∃ i,XJ f n=some i/\i < n/\f i≠0/\∀ j,j < i->f j=0:=by
 cases h:XJ f n with
 | none =>
  refine .inl ⟨rfl,fun j hj=>?_⟩;have:=List.find?_eq_none.1 h j (List.mem_range.2 hj);simpa using this
 | some i =>
  right;obtain ⟨h1,h2,h3⟩:=List.find?_range_eq_some.1 h;exact ⟨i,rfl,List.mem_range.1 h2,by simpa using h1,fun j hj=>by have:=h3 j hj;simpa using this⟩
theorem Qes {σ ρ μ:Type} {step:σ->Option (σ⊕(ρ⊕μ))} (S:Nat->σ) (n:Nat) (f:Nat->Int) (res:Nat->Int->ρ) (o:μ)
  (hs:∀ k,k < n->(∀ j,j < k->f j=0)->step (S k)=if f k=0 then some (.inl (S (k+1))) else some (.inr (.inl (res k (f k))))) (he:(∀ j,j < n->f j=0)->step (S n)=some (.inr (.inr o))) :
  loop step (S 0)=some (match XJ f n with | some i=>.inl (res i (f i)) | none=>.inr o):=by
 rcases Qju f n with ⟨h1,h2⟩ | ⟨i,h1,h2,h3,h4⟩
 ·rw [h1];exact Qhf S n (fun k hk=>by rw [hs k hk fun j hj=>h2 j (by omega),if_pos (h2 k hk)]) (he h2)
 ·rw [h1];exact Qhf S i (fun k hk=>by rw [hs k (by omega) fun j hj=>h4 j (by omega),if_pos (h4 k hk)]) (by rw [hs i h2 h4,if_neg h3])
/-! ### Names -/
def Qnm (q:Int×Nat):Bool:=(!(((decide (97<=q.1))&&(decide (q.1<=122)))||((decide (65<=q.1))&&(decide (q.1<=90)))))&&((decide ((q.2:Int)=0))||((!decide (q.1=45))&&((decide (q.1 < 48))||(decide (57 < q.1)))))
def bi (s:ByteArray):List Int:=bl s
theorem Qto (s:ByteArray):(bi s).length=s.size:=JR s
theorem QGw {s:ByteArray} {k:Nat} (h:k < (bi s).length):idx (α:=Int) (bl s) (k:Int)=some (bi s)[k]:=XV (xs:=bi s) h
def Qeu (s:ByteArray):Bool:=decide (1<=s.size)&&(decide (s.size<=12)&&!((bi s).zipIdx.any Qnm))
theorem Qyr (s:ByteArray):s=ByteArray.mk #[]↔s.size=0:=by
 constructor
 ·intro h;subst h;rfl
 ·intro h;cases s with
  | mk d =>
   congr 1;exact Array.eq_empty_of_size_eq_zero h
theorem Qop (s:ByteArray) (hs:s.size<=1000):Qem s=some (Qeu s):=by
 unfold Qem Qeu;have hlen:(bi s).zipIdx.length=s.size:=by rw [List.length_zipIdx,Qto]
 have ht:tob s=some (bl s):=by unfold tob;rw [if_pos (by omega)]
 rw [ht,Qq,Zw (bi s).zipIdx Qnm (fun _ _=>false),Qq]
 ·rcases Qam (p:=Qnm) (res:=fun _ _=>false) (bi s).zipIdx 0 with ⟨k1,k2⟩ | ⟨j,x,k1,k2,k3⟩
  ·rw [k1,k2];simp only [Xy,Bool.not_false,Bool.and_true,Option.some.injEq];by_cases h0:s.size=0
   ·rw [decide_eq_true ((Qyr s).2 h0),decide_eq_false (show ¬ 1<=s.size by omega)];rfl
   ·rw [decide_eq_false (fun e=>h0 ((Qyr s).1 e)),decide_eq_true (show 1<=s.size by omega)];simp only [Bool.not_false,Bool.true_and];by_cases h1:s.size<=12
    ·rw [decide_eq_true h1,decide_eq_true (by omega)]
    ·rw [decide_eq_false h1,decide_eq_false (by omega)]
  ·rw [k1,k3];simp [Xy]
 ·intro k hk;rw [hlen] at hk;have hk2:k < (bl s).length:=by rw [JR];exact hk
  unfold Qph;rw [Yu hk2,cond_true,QGw (show k < (bi s).length by rw [Qto];exact hk),Qq,Yw k (by omega)];simp only [List.getElem_zipIdx,Nat.zero_add];rfl
 ·rw [hlen,show (s.size:Int)=((bl s).length:Int) by rw [JR]];unfold Qph;rw [Yx];rfl
theorem QGk (a b:Int):Zc [a,b]=if a≠0 then a else b:=by
 unfold Zc Zc Zc;by_cases h:a=0<;>by_cases h2:b=0<;>simp [h,h2]
theorem Qeh (a b c:Int):Zc [a,b,c]=if a≠0 then a else if b≠0 then b else c:=by
 unfold Zc Zc Zc Zc;by_cases h:a=0<;>by_cases h2:b=0<;>by_cases h3:c=0<;>simp [h,h2,h3]
theorem Qog {α:Type} [DecidableEq α]:∀ (a b:List α) (hl:a.length=b.length) (k:Nat),(Xy (XY (fun (x:α×α)=>!decide (x.1=x.2)) (fun _ _=>false) k (a.zip b)) fun (_:Unit)=>some true)=some (decide (a=b))
 | [],[],_,k=>by simp [XY,Xy]
 | [],_::_,hl,_=>by simp at hl
 | _::_,[],hl,_=>by simp at hl
 | x::a,y::b,hl,k=>by
  by_cases hxy:x=y
  ·subst hxy;have:=Qog a b (by simpa using hl) (k+1);simp only [List.zip_cons_cons,XY];simpa using this
  ·simp [XY,hxy,Xy]
theorem Qmz {α:Type} {a b:List α} (hl:a.length=b.length):(a.zip b).length=a.length:=by simp [hl]
theorem JV {α:Type} (l:List α) (f:α->Int) (k:Nat) (hk:k < l.length):(l[k]?.map f).getD 0=f l[k]:=by rw [List.getElem?_eq_getElem hk];rfl
theorem Qro {α β:Type} (l:List α) (f:α->β) (k:Nat) (hk:k < l.length):(l.take k).map f++[f l[k]]=(l.take (k+1)).map f:=by
 rw [List.take_add_one,List.getElem?_eq_getElem hk,List.map_append];rfl
theorem QBb {α β:Type} {a:List α} {b:List β} (hl:a.length=b.length):(a.zip b).length=a.length:=by simp [hl]
theorem Qgh {α:Type} {xs:List α} {k:Nat} (h:k<=xs.length):cut xs 0 (k:Int)=some (xs.take k):=by
 unfold cut;rw [if_pos (by omega),Int.toNat_natCast];rfl
theorem Qtd {α:Type} [DecidableEq α] (l:List α) (v:α):(l.any fun x=>decide (v=x))=decide (v∈l):=by
 rw [Bool.eq_iff_iff];simp
def Qbv {α:Type} (p:α->Bool) (l:List α):Int:=match XY p (fun k _=>(k:Int)) 0 l with | .inl i=>i | .inr _=>(-1:Int)
theorem Qvc {α:Type} (p:α->Bool) (l:List α):decide (0<=Qbv p l)=l.any p:=Qif p l 0
theorem Qvb (l:List Int) (v:Int) (hl:l.length < 1000000):Qie l v=some (Qbv (fun x=>decide (v=x)) l):=by
 unfold Qie Qbv;rw [Zw l (fun x=>decide (v=x)) (fun k _=>(k:Int)),Qq,Qig]
 ·intro k hk;unfold Qrj;rw [Yu hk,XV hk,Yw k (by omega)];rfl
 ·unfold Qrj;rw [Yx];rfl
theorem Qeb (l:List Int) (v:Int) (hl:l.length < 1000000):Qal l v=some (decide (v∈l)):=by
 unfold Qal;rw [Qvb l v hl,Qq,Qvc,Qtd]
end Go.Gw

end
section
set_option maxRecDepth 4096
namespace Go.Gw
open Go
attribute [local irreducible] loop
def ZU (s:ByteArray) (others:List ByteArray):Int:=bif Qeu s then (bif ZH others s then 5 else 0) else 4
def ZV (l:List ByteArray) (k:Nat):Int:=(l[k]?.map fun s=>ZU s (l.take k)).getD 0
def YK (p:Nh) (n:Int):Bool:=decide (0<=n)&&decide (n<=(p.Nf.length:Int) - 1)
def swX (p:Nh) (k:Nat) (s:Nu):Int:=bif YK p s.Nv then (bif (p.Nc.take k).any (fun o=>decide (o.Nv=s.Nv)) then 26 else 0) else 6
def swE (p:Nh) (k:Nat) (s:Nu):Int:=if ZU s.Name ((p.Nc.take k).map (·.Name))=0 then swX p k s else ZU s.Name ((p.Nc.take k).map (·.Name))
def JI (p:Nh) (k:Nat):Int:=(p.Nc[k]?.map (swE p k)).getD 0
def rsE (p:Nh) (r:Np) (k:Nat) (s:Int):Int:=bif YK p s then (bif decide (s∈r.Nf.take k) then 26 else 0) else 6
def Qbd (p:Nh) (r:Np) (k:Nat):Int:=(r.Nf[k]?.map (rsE p r k)).getD 0
def Qby (r:Np) (q:Int×Nu):Bool:=bif decide (q.2.Nv∈r.Nf) then !(decide (q.1=0)||decide (q.1=1)) else !decide (q.1=-1)
def rtX (p:Nh) (r:Np):Int :=
 if r.Nf.length < 2 then 10 else if p.Nf.length < r.Nf.length then 8 else
 match XJ (Qbd p r) r.Nf.length with
 | some i=>Qbd p r i
 | none=>if r.Nx.length=p.Nc.length then (bif (r.Nx.zip p.Nc).any (Qby r) then 2 else 0) else 10
def rtE (p:Nh) (k:Nat) (r:Np):Int:=if ZU r.Name ((p.Nk.take k).map (·.Name))=0 then rtX p r else ZU r.Name ((p.Nk.take k).map (·.Name))
def JG (p:Nh) (k:Nat):Int:=(p.Nk[k]?.map (rtE p k)).getD 0
def Qaj (p:Nh):Nr×Int :=
 if p.Nf.length=0\/p.Nb.length=0 then (Nr.mk 0 0,10) else if 8 < p.Nf.length\/3 < p.Nb.length\/4 < p.Nc.length\/10 < p.Nk.length then (Nr.mk 0 0,8) else
 match XJ (ZV p.Nf) p.Nf.length with
 | some i=>(Nr.mk 1 i,ZV p.Nf i)
 | none=>match XJ (ZV p.Nb) p.Nb.length with
  | some i=>(Nr.mk 2 i,ZV p.Nb i)
  | none=>match XJ (JI p) p.Nc.length with
   | some i=>(Nr.mk 3 i,JI p i)
   | none=>match XJ (JG p) p.Nk.length with
    | some i=>(Nr.mk 4 i,JG p i)
    | none=>(Nr.mk 0 0,0)
structure PlantS (p:Nh):Prop where
 se:p.Nf.length < 1000
 tr:p.Nb.length < 1000
 sw:p.Nc.length < 1000
 ro:p.Nk.length < 1000
 sn:∀ s∈p.Nf,s.size<=1000
 tn:∀ s∈p.Nb,s.size<=1000
 wn:∀ s∈p.Nc,s.Name.size<=1000
 rn:∀ r∈p.Nk,r.Name.size<=1000/\r.Nf.length < 1000/\r.Nx.length < 1000
theorem Qon {α:Type} (l:List α) (f:α->ByteArray) (k:Nat) (hk:k < l.length) (h:ZH ((l.take k).map f) (f l[k])=false):ZF ((l.take k).map f) (f l[k])=(l.take (k+1)).map f:=by
 unfold ZF;rw [h,if_neg (by simp),Qro l f k hk]
theorem Qpu (s:ByteArray) (others:List ByteArray):Zc [bif Qeu s then 0 else 4,bif !(ZH others s) then 0 else 5]=ZU s others:=by
 unfold ZU;cases Qeu s<;>cases ZH others s<;>rfl
theorem Qpv {s:ByteArray} {others:List ByteArray} (h:ZU s others=0):ZH others s=false:=by
 unfold ZU at h;cases h1:ZH others s with
 | false=>rfl
 | true=>rw [h1] at h;cases h2:Qeu s<;>rw [h2] at h<;>cases h
theorem QDg {n m:Int} (h:n≠m):decide (n=m)=false:=decide_eq_false h
theorem Qwi (l:List ByteArray) (mark:Int) (hl:l.length < 1000) (hn:∀ s∈l,s.size<=1000):Qhc mark l=some (match XJ (ZV l) l.length with | some i=>(Nr.mk mark i,ZV l i) | none=>(Nr.mk 0 0,0)):=by
 unfold Qhc;have key:loop (Qhb l mark) (0,[])=some (match XJ (ZV l) l.length with | some i=>.inl (Nr.mk mark i,ZV l i) | none=>.inr ()):=by
  refine Qes (step:=Qhb l mark) (fun k=>((k:Int),(l.take k).map id)) l.length (ZV l) (fun i e=>(Nr.mk mark i,e)) () (fun k hk _=>?_) (fun _=>?_)
  ·have hs:ZV l k=ZU l[k] (l.take k):=JV _ _ _ hk;have hi:=fun h=>Qon l id k hk h
   simp only [List.map_id,id_eq] at hi ⊢;rw [hs];unfold Qhb;simp only [Yu hk,cond_true,XV hk,Qq];rw [show Qpj l[k]=some l[k] from rfl,Qq,Qop _ (hn _ (List.getElem_mem hk)),Qq];simp only [X7,Qq];rw [Zb _ (by simp),Qq,Qpu];by_cases h:ZU l[k] (l.take k)=0
   ·rw [if_pos h,h,hi (Qpv h),Yw k (by omega)];rfl
   ·rw [if_neg h,QDg h];rfl
  ·unfold Qhb;simp only [Yx];rfl
 rw [key,Qq];cases XJ (ZV l) l.length<;>rfl
theorem QCs (l:List Nu) (s:Nu) (hl:l.length < 1000):Qma l s=some (l.any fun o=>decide (o.Nv=s.Nv)):=by
 unfold Qma Qrb;rw [Zw l (fun o=>decide (o.Nv=s.Nv)) (fun k _=>(k:Int)),Qq,Qig,Qq,Qif]
 ·intro k hk;unfold Qra;rw [Yu hk,XV hk,Yw k (by omega)];rfl
 ·unfold Qra;rw [Yx];rfl
theorem Qym (p:Nh) (hp:p.Nf.length < 1000) (n:Int):Z5 n 0 (w64 ((p.Nf.length:Int) - 1))=some (YK p n):=by
 rw [Qsf,Yz (by omega)];rfl
theorem QRf {p:Nh} (h:PlantS p) (k:Nat) (hk:k < p.Nc.length):Qla p k=some (swX p k p.Nc[k]):=by
 have h1:=h.sw;unfold Qla swX;rw [XV hk,Qq,Qgh (by omega),Qq,QCs _ _ (by simp;omega),Qq,Qym p h.se,Qq,X7,Qq,X7,Qq,Zb _ (by simp),Qq];cases YK p p.Nc[k].Nv<;>cases (p.Nc.take k).any (fun o=>decide (o.Nv=p.Nc[k].Nv))<;>rfl
theorem QRg {p:Nh} (h:PlantS p):Qku 3 p.Nc p=some (match XJ (JI p) p.Nc.length with | some i=>(Nr.mk 3 i,JI p i) | none=>(Nr.mk 0 0,0)):=by
 have hl:=h.sw;unfold Qku;have key:loop (Qha p p.Nc 3) (0,[])=some (match XJ (JI p) p.Nc.length with | some i=>.inl (Nr.mk 3 i,JI p i) | none=>.inr ()):=by
  refine Qes (step:=Qha p p.Nc 3) (fun k=>((k:Int),(p.Nc.take k).map (·.Name))) p.Nc.length (JI p) (fun i e=>(Nr.mk 3 i,e)) () (fun k hk _=>?_) (fun _=>?_)
  ·have hs:JI p k=swE p k p.Nc[k]:=JV _ _ _ hk;have hi:=fun h=>Qon p.Nc (·.Name) k hk h
   rw [hs];unfold Qha swE;simp only [Yu hk,cond_true,XV hk,Qq];rw [show Qoy p.Nc[k]=some p.Nc[k].Name from rfl,Qq,Qop _ (h.wn _ (List.getElem_mem hk)),Qq];simp only [X7,Qq];rw [Zb _ (by simp),Qq,Qpu,show Qkj (k:Int) p=some (swX p k p.Nc[k]) by unfold Qkj;rw [QRf h k hk];rfl];by_cases h1:ZU p.Nc[k].Name ((p.Nc.take k).map (·.Name))=0
   ·simp only [h1,hi (Qpv h1),if_true,decide_true,Bool.true_and,cond_true,Qq,Yw k (show k < 4611686018427387904 by omega)];by_cases h2:swX p k p.Nc[k]=0
    ·simp [h2]
    ·simp [h2]
   ·simp only [h1,if_false,decide_false,Bool.false_and,cond_false,Qq,Bool.not_false,cond_true]
  ·unfold Qha;simp only [Yx];rfl
 rw [key,Qq];cases XJ (JI p) p.Nc.length<;>rfl
theorem QOf {p:Nh} (h:PlantS p) (r:Np) (hr:r.Nf.length < 1000):loop (Qkx r p) 0=some (match XJ (Qbd p r) r.Nf.length with | some i=>.inl (Qbd p r i) | none=>.inr ()) :=
 Qes (fun k=>(k:Int)) r.Nf.length (Qbd p r) (fun _ e=>e) () (fun k hk _=>by
  have hs:Qbd p r k=rsE p r k r.Nf[k]:=JV _ _ _ hk;rw [hs];unfold Qkx rsE;rw [Yu hk,cond_true,XV hk,Qq,Qgh (by omega),Qq,Qym p h.se,Qq,X7,Qq,Qeb _ _ (by simp;omega),Qq,X7,Qq,Zb _ (by simp),Qq,Yw k (by omega)];cases YK p r.Nf[k]<;>cases decide (r.Nf[k]∈r.Nf.take k)<;>rfl) (fun _=>by
  unfold Qkx;rw [Yx];rfl)
theorem QOe {p:Nh} (r:Np) (hr:r.Nf.length < 1000) (hn:r.Nx.length < 1000) (he:r.Nx.length=p.Nc.length):loop (Qky r p) 0=some (XY (Qby r) (fun _ _=>(2:Int)) 0 (r.Nx.zip p.Nc)) :=
 Zw (r.Nx.zip p.Nc) _ _ (fun k hk=>by
  rw [QBb he] at hk;unfold Qky;rw [Yu hk,cond_true,XV hk,Qq,XV (show k < p.Nc.length by omega),Qq,Qeb _ _ (by omega),Qq,Yw k (by omega)];simp only [List.getElem_zip,Qby];rw [show Qen r.Nx[k]=some (decide (r.Nx[k]=0)||decide (r.Nx[k]=1)) from rfl];cases decide (p.Nc[k].Nv∈r.Nf)<;>rfl) (by
  rw [QBb he];unfold Qky;rw [Yx];rfl)
theorem QOi {p:Nh} (h:PlantS p) (k:Nat) (hk:k < p.Nk.length):Qkz p k=some (rtX p p.Nk[k]):=by
 obtain ⟨_,hr,hn⟩:=h.rn _ (List.getElem_mem hk);have h1:=h.se;have h2:=h.sw;unfold Qkz rtX;rw [XV hk,Qq,X7,Qq,X7,Qq,Zb _ (by simp),Qq];generalize p.Nk[k]=r at hr hn ⊢;by_cases h3:r.Nf.length < 2
 ·rw [if_pos h3,decide_eq_false (show ¬ (2<=(r.Nf.length:Int)) by omega)];rfl
 rw [if_neg h3,decide_eq_true (show 2<=(r.Nf.length:Int) by omega)];by_cases h4:p.Nf.length < r.Nf.length
 ·rw [if_pos h4,decide_eq_false (show ¬ ((r.Nf.length:Int)<=p.Nf.length) by omega)];rfl
 rw [if_neg h4,decide_eq_true (show (r.Nf.length:Int)<=p.Nf.length by omega),QOf h r hr];simp only [Zc,cond_true,if_true,decide_true,Bool.not_true,cond_false,Qq];cases XJ (Qbd p r) r.Nf.length with
 | some i=>rfl
 | none =>
  simp only [Xy];by_cases h5:r.Nx.length=p.Nc.length
  ·rw [if_pos h5,decide_eq_true (by omega),Bool.not_true,cond_false,QOe r hr hn h5,Qq];rcases Qam (p:=Qby r) (res:=fun _ _=>(2:Int)) (r.Nx.zip p.Nc) 0 with ⟨k1,k2⟩ | ⟨j,x,k1,k2,k3⟩
   ·rw [k1,k2];rfl
   ·rw [k1,k3];rfl
  ·rw [if_neg h5,decide_eq_false (by omega)];rfl
theorem QOu {p:Nh} (h:PlantS p):Qkt 4 p.Nk p=some (match XJ (JG p) p.Nk.length with | some i=>(Nr.mk 4 i,JG p i) | none=>(Nr.mk 0 0,0)):=by
 have hl:=h.ro;unfold Qkt;have key:loop (Qgz p p.Nk 4) (0,[])=some (match XJ (JG p) p.Nk.length with | some i=>.inl (Nr.mk 4 i,JG p i) | none=>.inr ()):=by
  refine Qes (step:=Qgz p p.Nk 4) (fun k=>((k:Int),(p.Nk.take k).map (·.Name))) p.Nk.length (JG p) (fun i e=>(Nr.mk 4 i,e)) () (fun k hk _=>?_) (fun _=>?_)
  ·have hs:JG p k=rtE p k p.Nk[k]:=JV _ _ _ hk;have hi:=fun h=>Qon p.Nk (·.Name) k hk h
   rw [hs];unfold Qgz rtE;simp only [Yu hk,cond_true,XV hk,Qq];rw [show Qpa p.Nk[k]=some p.Nk[k].Name from rfl,Qq,Qop _ (h.rn _ (List.getElem_mem hk)).1,Qq];simp only [X7,Qq];rw [Zb _ (by simp),Qq,Qpu,show Qkk (k:Int) p=some (rtX p p.Nk[k]) by unfold Qkk;rw [QOi h k hk];rfl];by_cases h1:ZU p.Nk[k].Name ((p.Nk.take k).map (·.Name))=0
   ·simp only [h1,hi (Qpv h1),if_true,decide_true,Bool.true_and,cond_true,Qq,Yw k (show k < 4611686018427387904 by omega)];by_cases h2:rtX p p.Nk[k]=0
    ·simp [h2]
    ·simp [h2]
   ·simp only [h1,if_false,decide_false,Bool.false_and,cond_false,Qq,Bool.not_false,cond_true]
  ·unfold Qgz;simp only [Yx];rfl
 rw [key,Qq];cases XJ (JG p) p.Nk.length<;>rfl
theorem QCt {p:Nh} (h:PlantS p):Qkl p=some (Qaj p):=by
  unfold Qkl Qaj;rw [X7,Qq,X7,Qq,Zb _ (by simp),Qq];by_cases h1:p.Nf.length=0\/p.Nb.length=0
  · rw [if_pos h1, show (decide (0 < (p.Nf.length : Int)) && decide (0 < (p.Nb.length : Int))) = false by
      rcases h1 with h1 | h1
      · rw [decide_eq_false (show ¬ (0 < (p.Nf.length:Int)) by omega)];rfl
      · rw [decide_eq_false (show ¬ (0 < (p.Nb.length:Int)) by omega),Bool.and_false]]
    rfl
  rw [if_neg h1,decide_eq_true (show 0 < (p.Nf.length:Int) by omega),decide_eq_true (show 0 < (p.Nb.length:Int) by omega)];by_cases h2:8 < p.Nf.length\/3 < p.Nb.length\/4 < p.Nc.length\/10 < p.Nk.length
  · rw [if_pos h2, show (((decide (8 < (p.Nf.length : Int)) || decide (3 < (p.Nb.length : Int))) || decide (4 < (p.Nc.length : Int))) || decide (10 < (p.Nk.length : Int))) = true by
      simp only [Bool.or_eq_true,decide_eq_true_eq];omega]
    rfl
  rw [if_neg h2, show (((decide (8 < (p.Nf.length : Int)) || decide (3 < (p.Nb.length : Int))) || decide (4 < (p.Nc.length : Int))) || decide (10 < (p.Nk.length : Int))) = false by
      rw [decide_eq_false (by omega),decide_eq_false (by omega),decide_eq_false (by omega),decide_eq_false (by omega)];rfl]
  unfold Qow Qox Qoz Qpb;rw [Qwi _ _ h.se h.sn,Qwi _ _ h.tr h.tn,QRg h,QOu h];have hz:∀ {f:Nat->Int} {n i:Nat},XJ f n=some i->f i≠0:=fun {f n i} hf=>by
    rcases Qju f n with ⟨k1,_⟩ | ⟨j,k1,_,k3,_⟩
    · rw [k1] at hf;cases hf
    · rw [k1] at hf;cases hf;exact k3
  simp only [Bool.true_and,Bool.not_false,cond_true,Zc,if_true,decide_true,Bool.not_true,cond_false,Qq];cases h3:XJ (ZV p.Nf) p.Nf.length with
  | some i=>simp [hz h3]
  | none =>
    simp only [decide_true,Bool.not_true,cond_false];cases h4:XJ (ZV p.Nb) p.Nb.length with
    | some i=>simp [hz h4]
    | none =>
      simp only [decide_true,Bool.not_true,cond_false];cases h5:XJ (JI p) p.Nc.length with
      | some i=>simp [hz h5]
      | none =>
        simp only [decide_true,Bool.not_true,cond_false];cases h6:XJ (JG p) p.Nk.length with
        | some i=>simp [hz h6]
        | none=>simp
theorem QNp {p:Nh} (h:PlantS p):Qdc p=some (Qaj p).2:=by
 unfold Qdc;rw [QCt h];rfl
end Go.Gw

end
section
set_option maxRecDepth 4096
namespace Go.Gw
open Go
attribute [local irreducible] loop
theorem Qtz {α:Type} {xs:List α} (h:1<=xs.length):cut xs 1 (xs.length:Int)=some (xs.drop 1):=by
 unfold cut;rw [if_pos (by omega),Int.toNat_natCast,List.take_length];rfl
structure StateS (x:Ni):Prop where
 sw:x.Nc.length < 1000
 tr:x.Nb.length < 1000
 ch:∀ t∈x.Nb,t.Ng.length < 1000
def X0 (x:Ni) (s:Int):Int:=Qbv (fun t:Nl=>decide (s∈t.Ng)) x.Nb
def Zp (x:Ni) (s:Int):Bool:=x.Nb.any fun t=>decide (s∈t.Ng)
theorem QGu (x:Ni) (s:Int):decide (0<=X0 x s)=Zp x s:=Qvc _ _
theorem QGv (p:Nh) {x:Ni} (h:StateS x) (s:Int):Qkp (some ⟨p,x⟩) s=some (X0 x s):=by
 have h1:=h.tr;unfold Qkp Qrc X0 Qbv;rw [Qq];show (Option.bind (Option.bind (loop (Qme s x.Nb) 0) _) _)=_;rw [Zw x.Nb (fun t=>decide (s∈t.Ng)) (fun k _=>(k:Int)),Qq,Qig,Qq]
 ·intro k hk;unfold Qme Qpl;rw [Yu hk,cond_true,XV hk,Qq,Qeb _ _ (by have:=h.ch _ (List.getElem_mem hk);omega),Qq,Qq,Yw k (by omega)]
 ·unfold Qme;rw [Yx];rfl
theorem Qrq (p:Nh) {x:Ni} (h:StateS x) (l:List Int) (hl:l.length < 1000):Qeq (some ⟨p,x⟩) l=some (l.any (Zp x)):=by
 unfold Qeq Qqy Qre;rw [Zw l (Zp x) (fun k _=>(k:Int)),Qq,Qig,Qq,Qif]
 ·rfl
 ·intro k hk;unfold Qrd Qpo;rw [Yu hk,cond_true,XV hk,Qq,QGv p h,Qq,Qq,QGu,Yw k (by omega)]
 ·unfold Qrd;rw [Yx];rfl
def Qgn (secs:List Int) (q:Nu×(Int×Int)):Bool:=decide (q.1.Nv∈secs)&&!decide (q.2.1=q.2.2)
def ZG (p:Nh) (sw:List Int) (r:Np) (secs:List Int):Bool:=!((p.Nc.zip (r.Nx.zip sw)).any (Qgn secs))
theorem QQo (α:Type) (p:α->Bool) (l:List α):(Xy (XY p (fun _ _=>false) 0 l) fun (_:Unit)=>some true)=some (!(l.any p)):=by
 rcases Qam (p:=p) (res:=fun _ _=>false) l 0 with ⟨k1,k2⟩ | ⟨j,x,k1,k2,k3⟩
 ·rw [k1,k2];rfl
 ·rw [k1,k3];rfl
theorem Qvg {p:Nh} {x:Ni} {r:Np} {secs:List Int} (h1:r.Nx.length=p.Nc.length) (h2:x.Nc.length=p.Nc.length) (h3:p.Nc.length < 1000) (hs:secs.length < 1000):Qgw (some ⟨p,x⟩) r secs=some (ZG p x.Nc r secs):=by
 unfold Qgw ZG;have hlen:(p.Nc.zip (r.Nx.zip x.Nc)).length=p.Nc.length:=by simp [h1,h2]
 rw [Qq,Zw (p.Nc.zip (r.Nx.zip x.Nc)) (Qgn secs) (fun _ _=>false),Qq,QQo]
 ·intro k hk;rw [hlen] at hk;unfold Qpn;rw [Yu hk,cond_true,XV hk,Qq,Qeb _ _ (by omega),Qq,Yw k (by omega)];simp only [Qq];rw [XV (show k < r.Nx.length by omega),XV (show k < x.Nc.length by omega)];simp only [List.getElem_zip,Qgn,Qq];cases decide (p.Nc[k].Nv∈secs)<;>rfl
 ·rw [hlen];unfold Qpn;rw [Yx];rfl
theorem QCv (l:List Nl) (h:l.length < 1000000):Qly l=some l:=by
 unfold Qly;rw [Qad (by simp;omega)];rfl
theorem Qny (l:List Int) (h:l.length < 1000000):Qcd l=some l:=by
 unfold Qcd;rw [Qad (by simp;omega)];rfl
theorem Qgm {α:Type} {xs:List α} {i:Int} (h0:0<=i) (h:i.toNat < xs.length):idx xs i=some xs[i.toNat]:=by
 unfold idx;rw [if_pos h0,List.getElem?_eq_getElem h]
theorem QKk (p:Nh) (x:Ni) {a:Int} (h0:0<=a) (hk:a.toNat < x.Nb.length) (hl:x.Nb.length < 1000) (c:List Int) (u:Int):Qay (some ⟨p,x⟩) a c u=some (some ⟨p,⟨x.Nc,x.Nb.set a.toNat ⟨c,u⟩,x.Nj⟩⟩):=by
 unfold Qay;rw [Qq,QCv _ (by show x.Nb.length < _;omega),Qq];show Option.bind (idx x.Nb a) _=_;rw [Qgm h0 hk,Qq]
theorem QGo (n:Nat) (h:n < 1000000):Qmd (n:Int)=some []:=by
 unfold Qmd;rw [decide_eq_false (show ¬ (n:Int) < 0 by omega)];simp only [cond_false,Qq,Int.natCast_zero,Int.sub_zero];rw [show w64 (0:Int)=0 from rfl,Int.sub_zero,Yz (by omega)];by_cases h0:0 < (n:Int)
 ·rw [decide_eq_true h0,cond_true];unfold mkZ
  first
  | (rw [if_pos (by omega),Qq];unfold cut;rw [if_pos (by simp)];rfl)
  | skip
 ·rw [decide_eq_false h0];rfl
theorem QCz (a b:List Int) (ha:a.length < 1000) (hb:b.length < 1000):Qlz [a,b]=some (a++b):=by
 have f0:Qfg [a,b] (0,0)=some (.inl ((a.length:Int),1)):=by
  unfold Qfg;simp only [show decide ((0:Int) < (([a,b]:List (List Int)).length:Int))=true from rfl,cond_true,show idx [a,b] (0:Int)=some a from rfl,Qq,Int.zero_add];rw [Yz (by omega),decide_eq_false (by omega)];rfl
 have f1:Qfg [a,b] ((a.length:Int),1)=some (.inl (((a.length+b.length:Nat):Int),2)):=by
  unfold Qfg;simp only [show decide ((1:Int) < (([a,b]:List (List Int)).length:Int))=true from rfl,cond_true,show idx [a,b] (1:Int)=some b from rfl,Qq];rw [Yz (by omega),decide_eq_false (by omega),show ((a.length:Int)+(b.length:Int))=((a.length+b.length:Nat):Int) by omega];rfl
 have f2:Qfg [a,b] (((a.length+b.length:Nat):Int),2)=some (.inr ((a.length+b.length:Nat):Int)):=rfl;have g0:Qfh [a,b] ([],0)=some (.inl (a,1)):=by
  unfold Qfh;simp only [show decide ((0:Int) < (([a,b]:List (List Int)).length:Int))=true from rfl,cond_true,show idx [a,b] (0:Int)=some a from rfl,Qq];rw [Qad (by simp;omega)];rfl
 have g1:Qfh [a,b] (a,1)=some (.inl (a++b,2)):=by
  unfold Qfh;simp only [show decide ((1:Int) < (([a,b]:List (List Int)).length:Int))=true from rfl,cond_true,show idx [a,b] (1:Int)=some b from rfl,Qq];rw [Qad (by omega)];rfl
 have g2:Qfh [a,b] (a++b,2)=some (.inr (a++b)):=rfl;unfold Qlz;rw [Qdd f0,Qdd f1,Qet f2,Qq,QGo _ (by omega),Qq,Qdd g0,Qdd g1,Qet g2,Qq]
/-! ### Events -/
def Qcj (p:Nh) (n:Int):Bool:=decide (0<=n)&&decide (n<=(p.Nb.length:Int) - 1)
def Qik (p:Nh) (n:Int):Bool:=decide (0<=n)&&decide (n<=(p.Nc.length:Int) - 1)
def Qhs (p:Nh) (n:Int):Bool:=decide (0<=n)&&decide (n<=(p.Nk.length:Int) - 1)
def Y4 (n:Int):Bool:=decide (n=0)||decide (n=1)
def ZS (p:Nh) (e:Nn):Int :=
 if ¬ (0<=e.Kind/\e.Kind<=6) then 15 else if e.Kind=2 then (bif Qik p e.A then (bif Y4 e.B then 0 else 2) else 6) else
 bif Qcj p e.A then (if e.Kind=0 then (bif YK p e.B then 0 else 6) else if e.Kind=1 then (bif Qhs p e.B then 0 else 6) else if e.B=0 then 0 else 3) else 6
theorem Qkh {n:Int} {k:Nat} (hk:k < 1000):Z5 n 0 (w64 ((k:Int) - 1))=some (decide (0<=n)&&decide (n<=(k:Int) - 1)):=by
 rw [Qsf,Yz (by omega)]
theorem Qyn {p:Nh} (h:PlantS p) (n:Int):Qhe p n=some (bif YK p n then 0 else 6):=by
 unfold Qhe;rw [Qkh h.se,Qq,X7];rfl
theorem QSj {p:Nh} (h:PlantS p) (n:Int):Qlb p n=some (bif Qcj p n then 0 else 6):=by
 unfold Qlb;rw [Qkh h.tr,Qq,X7];rfl
theorem QEm {p:Nh} (h:PlantS p) (e:Nn):Qgt p e=some (ZS p e):=by
  unfold Qgt ZS;rw [QHd,Qq];by_cases hk:0<=e.Kind/\e.Kind<=6
  · rw [if_neg (by omega),show (decide (0<=e.Kind)&&decide (e.Kind<=6))=true by simp [hk.1,hk.2]];simp only [Bool.not_true,cond_false];by_cases h2:e.Kind=2
    · rw [if_pos h2,decide_eq_true h2,cond_true,Qkh h.sw,Qq,X7,Qq,show Qen e.B=some (Y4 e.B) from rfl,Qq,X7,Qq,Zb _ (by simp),Qq];show some (Zc [bif Qik p e.A then 0 else 6,_])=_;cases Qik p e.A<;>cases Y4 e.B<;>rfl
    · rw [if_neg h2,decide_eq_false h2,cond_false,X7,Qq,Qyn h,Qq,Qkh h.ro,Qq,X7,Qq,QSj h];show (Option.bind (bif decide (e.Kind=0) then some (bif YK p e.B then 0 else 6) else bif decide (e.Kind=1) then some (bif Qhs p e.B then 0 else 6) else some _) _)=_;by_cases h0:e.Kind=0
      · rw [if_pos h0,decide_eq_true h0,cond_true,Qq,Qq,Zb _ (by simp),Qq];cases Qcj p e.A<;>cases YK p e.B<;>rfl
      · rw [if_neg h0,decide_eq_false h0,cond_false];by_cases h1:e.Kind=1
        · rw [if_pos h1,decide_eq_true h1,cond_true,Qq,Qq,Zb _ (by simp),Qq];cases Qcj p e.A<;>cases Qhs p e.B<;>rfl
        · rw [if_neg h1,decide_eq_false h1,cond_false,Qq,Qq,Zb _ (by simp),Qq];by_cases h3:e.B=0
          · rw [if_pos h3,decide_eq_true h3];cases Qcj p e.A<;>rfl
          · rw [if_neg h3,decide_eq_false h3];cases Qcj p e.A<;>rfl
  · rw [if_pos hk, show (decide (0 <= e.Kind) && decide (e.Kind <= 6)) = false by
      rw [Bool.and_eq_false_iff,decide_eq_false_iff_not,decide_eq_false_iff_not];omega]
    rfl
def ZP (x:Ni) (e:Nn):Nl:=x.Nb[e.A.toNat]?.getD ⟨[],0⟩
def Qfk (p:Nh) (e:Nn):Nu:=p.Nc[e.A.toNat]?.getD ⟨ByteArray.mk #[],0⟩
def JZ (p:Nh) (e:Nn):Np:=p.Nk[e.B.toNat]?.getD ⟨ByteArray.mk #[],[],[]⟩
def J1 (p:Nh) (x:Ni) (e:Nn):Int :=
 if e.Kind=2 then (bif Zp x (Qfk p e).Nv then 17 else 0) else
 if e.Kind=0 then (if (ZP x e).Ng.length=0 then (bif Zp x e.B then 17 else 0) else 22) else
 if (ZP x e).Ng.length=0 then 22 else
 if e.Kind=1 then (if (JZ p e).Nf.head?=(ZP x e).Ng.getLast? then (bif ((JZ p e).Nf.drop 1).any (Zp x) then 17 else bif ZG p x.Nc (JZ p e) (JZ p e).Nf then 0 else 13) else 23) else
 if e.Kind=4 then (if 1 < (ZP x e).Nq then 0 else 12) else
 if e.Kind=3\/e.Kind=5 then (if (ZP x e).Nq < (ZP x e).Ng.length then 0 else 12) else
 if (ZP x e).Ng.length=1 then 0 else 17
def trX (p:Nh) (t:Nl) (e:Nn):Nl :=
 if e.Kind=0 then ⟨[e.B],1⟩ else if e.Kind=1 then ⟨t.Ng++(JZ p e).Nf.drop 1,t.Nq⟩ else if e.Kind=3 then ⟨t.Ng,t.Nq+1⟩ else
 if e.Kind=4 then ⟨t.Ng.drop 1,t.Nq - 1⟩ else if e.Kind=5 then ⟨t.Ng.take (t.Ng.length - 1),t.Nq⟩ else ⟨[],0⟩
def JH (p:Nh) (x:Ni) (e:Nn):Ni :=
 if e.Kind=2 then ⟨x.Nc.set e.A.toNat e.B,x.Nb,x.Nj⟩ else ⟨x.Nc,x.Nb.set e.A.toNat (trX p (ZP x e) e),x.Nj⟩
end Go.Gw

end
section
set_option maxRecDepth 4096
namespace Go.Gw
open Go
attribute [local irreducible] loop
theorem Qgj {f:Nat->Int} {n:Nat} (h:XJ f n=none):∀ j,j < n->f j=0:=by
 rcases Qju f n with ⟨_,h2⟩ | ⟨i,h1,_⟩
 ·exact h2
 ·rw [h1] at h;cases h
theorem Qav {f:Nat->Int} {n i:Nat} (h:XJ f n=some i):i < n/\f i≠0/\∀ j,j < i->f j=0:=by
 rcases Qju f n with ⟨h1,_⟩ | ⟨j,h1,h2,h3,h4⟩
 ·rw [h1] at h;cases h
 ·rw [h1] at h;cases h;exact ⟨h2,h3,h4⟩
theorem QFz {f:Nat->Int} {n:Nat} (h:∀ j,j < n->f j=0):XJ f n=none:=by
 cases hf:XJ f n with
 | none=>rfl
 | some i=>obtain ⟨h1,h2,_⟩:=Qav hf;exact absurd (h i h1) h2
theorem Qxd {α:Type} {l:List α} (h:∀ k (hk:k < l.length),l[k]∉l.take k):l.Nodup:=by
 unfold List.Nodup;rw [List.pairwise_iff_getElem];intro i j hi hj hij e;refine h j hj ?_;rw [<-e];exact List.mem_take_iff_getElem.2 ⟨i,by omega,rfl⟩
theorem QMr {α:Type} {l:List α} (h:l.Nodup) {k:Nat} (hk:k < l.length):l[k]∉l.take k:=by
 intro hm;obtain ⟨i,hi,e⟩:=List.mem_take_iff_getElem.1 hm;unfold List.Nodup at h;rw [List.pairwise_iff_getElem] at h;exact h i k (by omega) hk (by omega) e
structure PlantOk (p:Nh):Prop where
 s1:1<=p.Nf.length
 s8:p.Nf.length<=8
 t1:1<=p.Nb.length
 t3:p.Nb.length<=3
 w4:p.Nc.length<=4
 r10:p.Nk.length<=10
 ws:∀ s∈p.Nc,YK p s.Nv=true
 r2:∀ r∈p.Nk,2<=r.Nf.length
 r8:∀ r∈p.Nk,r.Nf.length<=p.Nf.length
 rs:∀ r∈p.Nk,∀ s∈r.Nf,YK p s=true
 rd:∀ r∈p.Nk,r.Nf.Nodup
 rn:∀ r∈p.Nk,r.Nx.length=p.Nc.length
 rx:∀ r∈p.Nk,(r.Nx.zip p.Nc).any (Qby r)=false
theorem Qfc {p:Nh} {r:Np} (h:rtX p r=0):2<=r.Nf.length/\r.Nf.length<=p.Nf.length/\(∀ s∈r.Nf,YK p s=true)/\r.Nf.Nodup/\r.Nx.length=p.Nc.length/\(r.Nx.zip p.Nc).any (Qby r)=false:=by
 unfold rtX at h;by_cases h1:r.Nf.length < 2
 ·rw [if_pos h1] at h;cases h
 rw [if_neg h1] at h;by_cases h2:p.Nf.length < r.Nf.length
 ·rw [if_pos h2] at h;cases h
 rw [if_neg h2] at h;cases hf:XJ (Qbd p r) r.Nf.length with
 | some i=>rw [hf] at h;exact absurd h (Qav hf).2.1
 | none =>
  rw [hf] at h;have hz:∀ k (hk:k < r.Nf.length),rsE p r k r.Nf[k]=0:=fun k hk=>by
   have:=Qgj hf k hk;rwa [show Qbd p r k=rsE p r k r.Nf[k] from JV _ _ _ hk] at this
  have hz2:∀ k (hk:k < r.Nf.length),YK p r.Nf[k]=true/\r.Nf[k]∉r.Nf.take k:=fun k hk=>by
   have:=hz k hk;unfold rsE at this;cases hb:YK p r.Nf[k] with
   | false=>rw [hb] at this;cases this
   | true =>
    rw [hb,cond_true] at this;refine ⟨rfl,fun hm=>?_⟩;rw [decide_eq_true hm] at this;cases this
  have h3:r.Nx.length=p.Nc.length/\(r.Nx.zip p.Nc).any (Qby r)=false:=by
   by_cases h5:r.Nx.length=p.Nc.length
   ·simp only [h5,if_true] at h;refine ⟨h5,?_⟩;cases hb:(r.Nx.zip p.Nc).any (Qby r) with
    | false=>rfl
    | true=>rw [hb] at h;cases h
   ·simp only [h5,if_false] at h;cases h
  refine ⟨by omega,by omega,fun s hs=>?_,Qxd fun k hk=>(hz2 k hk).2,h3.1,h3.2⟩;obtain ⟨k,hk,rfl⟩:=List.getElem_of_mem hs;exact (hz2 k hk).1
theorem Qxs {p:Nh} (h:(Qaj p).2=0):PlantOk p:=by
 unfold Qaj at h;by_cases h1:p.Nf.length=0\/p.Nb.length=0
 ·rw [if_pos h1] at h;cases h
 rw [if_neg h1] at h;by_cases h2:8 < p.Nf.length\/3 < p.Nb.length\/4 < p.Nc.length\/10 < p.Nk.length
 ·rw [if_pos h2] at h;cases h
 rw [if_neg h2] at h;cases h3:XJ (ZV p.Nf) p.Nf.length with
 | some i=>rw [h3] at h;exact absurd h (Qav h3).2.1
 | none =>
  rw [h3] at h;cases h4:XJ (ZV p.Nb) p.Nb.length with
  | some i=>rw [h4] at h;exact absurd h (Qav h4).2.1
  | none =>
   rw [h4] at h;cases h5:XJ (JI p) p.Nc.length with
   | some i=>rw [h5] at h;exact absurd h (Qav h5).2.1
   | none =>
    rw [h5] at h;cases h6:XJ (JG p) p.Nk.length with
    | some i=>rw [h6] at h;exact absurd h (Qav h6).2.1
    | none =>
     have hr:∀ r∈p.Nk,rtX p r=0:=fun r hr=>by
      obtain ⟨k,hk,rfl⟩:=List.getElem_of_mem hr;have:=Qgj h6 k hk;rw [show JG p k=rtE p k p.Nk[k] from JV _ _ _ hk] at this;unfold rtE at this;by_cases hn:ZU p.Nk[k].Name ((p.Nk.take k).map (·.Name))=0
      ·rwa [if_pos hn] at this
      ·rw [if_neg hn] at this;exact absurd this hn
     refine ⟨by omega,by omega,by omega,by omega,by omega,by omega,fun s hs=>?_,fun r h=>(Qfc (hr r h)).1,fun r h=>(Qfc (hr r h)).2.1,fun r h=>(Qfc (hr r h)).2.2.1,fun r h=>(Qfc (hr r h)).2.2.2.1,fun r h=>(Qfc (hr r h)).2.2.2.2.1,fun r h=>(Qfc (hr r h)).2.2.2.2.2⟩;obtain ⟨k,hk,rfl⟩:=List.getElem_of_mem hs;have:=Qgj h5 k hk;rw [show JI p k=swE p k p.Nc[k] from JV _ _ _ hk] at this;unfold swE at this;by_cases hn:ZU p.Nc[k].Name ((p.Nc.take k).map (·.Name))=0
     ·rw [if_pos hn] at this;unfold swX at this;cases hb:YK p p.Nc[k].Nv with
      | true=>rfl
      | false=>rw [hb] at this;cases this
     ·rw [if_neg hn] at this;exact absurd this hn
def JY (r:Np) (a b:Int):Bool:=(r.Nf.zip (r.Nf.drop 1)).any fun q=>decide (q.1=a)&&decide (q.2=b)
def Qah (p:Nh) (sw:List Int) (a b:Int):Bool:=p.Nk.any fun r=>JY r a b&&ZG p sw r [a,b]
theorem pairB_iff {r:Np} {a b:Int}:JY r a b=true↔∃ k,∃ hk:k+1 < r.Nf.length,r.Nf[k]=a/\r.Nf[k+1]=b:=by
 unfold JY;rw [List.any_eq_true];constructor
 ·rintro ⟨q,hq,h⟩;obtain ⟨k,hk,rfl⟩:=List.getElem_of_mem hq;simp only [List.length_zip,List.length_drop] at hk;simp only [List.getElem_zip,List.getElem_drop,Bool.and_eq_true,decide_eq_true_eq] at h;refine ⟨k,by omega,h.1,?_⟩;rw [<-h.2];congr 1;omega
 ·rintro ⟨k,hk,h1,h2⟩;refine ⟨(r.Nf[k],r.Nf[k+1]),?_,by simp [h1,h2]⟩;rw [List.mem_iff_getElem];refine ⟨k,by simp only [List.length_zip,List.length_drop];omega,?_⟩;simp only [List.getElem_zip,List.getElem_drop,Prod.mk.injEq,true_and];congr 1;omega
structure StateOk (p:Nh) (x:Ni):Prop where
 sw:x.Nc.length=p.Nc.length
 tr:x.Nb.length=p.Nb.length
 pos:∀ n∈x.Nc,Y4 n=true
 cnt:Q7 x.Nj=true
 un:∀ t∈x.Nb,(t.Ng=[]/\t.Nq=0)\/(1<=t.Nq/\t.Nq<=t.Ng.length)
 sc:∀ t∈x.Nb,∀ s∈t.Ng,YK p s=true
 nd:∀ t∈x.Nb,t.Ng.Nodup
 dj:∀ i j (hi:i < x.Nb.length) (hj:j < x.Nb.length),i≠j->∀ s∈x.Nb[i].Ng,s∉x.Nb[j].Ng
 ld:∀ t∈x.Nb,∀ k (hk:k+1 < t.Ng.length),Qah p x.Nc t.Ng[k] t.Ng[k+1]=true
theorem Qxc:∀ (n:Nat) (l:List Int),l.Nodup->(∀ s∈l,0<=s/\s < (n:Int))->l.length<=n
  | 0,l,_,h=>by
    cases l with
    | nil=>simp
    | cons x xs=>have:=h x (by simp);omega
  | n+1,l,hn,h=>by
    have h1:=Qxc n (l.filter fun s=>decide (s≠(n:Int))) (hn.filter _) fun s hs=>by
      rw [List.mem_filter] at hs;have:=h s hs.1;have:=hs.2;simp at this;omega
    have h2:l.length<=(l.filter fun s=>decide (s≠(n:Int))).length+1:=by
      clear h h1
      induction l with
      | nil=>simp
      | cons x xs ih =>
        rw [List.nodup_cons] at hn;by_cases hx:x=(n:Int)
        · have : xs.filter (fun s => decide (s ≠ (n : Int))) = xs := by
            rw [List.filter_eq_self];intro a ha;simp only [ne_eq,decide_not,Bool.not_eq_true',decide_eq_false_iff_not];intro e;subst hx;subst e;exact hn.1 ha
          rw [List.filter_cons_of_neg (by simp [hx]),this];simp
        · rw [List.filter_cons_of_pos (by simp [hx])];have:=ih hn.2;simp only [List.length_cons];omega
    omega
theorem StateOk.len {p:Nh} {x:Ni} (h:StateOk p x) {t:Nl} (ht:t∈x.Nb):t.Ng.length<=p.Nf.length :=
 Qxc _ _ (h.nd t ht) fun s hs=>by
  have:=h.sc t ht s hs;unfold YK at this;simp at this;omega
theorem StateOk.s {p:Nh} (hp:PlantOk p) {x:Ni} (h:StateOk p x):StateS x :=
 ⟨by have:=h.sw;have:=hp.w4;omega,by have:=h.tr;have:=hp.t3;omega,fun t ht=>by have:=h.len ht;have:=hp.s8;omega⟩
end Go.Gw

end
section
set_option maxRecDepth 4096
namespace Go.Gw
open Go
attribute [local irreducible] loop
theorem liesB_iff {p:Nh} {sw:List Int} {r:Np} {secs:List Int}:ZG p sw r secs=true↔∀ k (h1:k < p.Nc.length) (h2:k < r.Nx.length) (h3:k < sw.length),p.Nc[k].Nv∈secs->r.Nx[k]=sw[k]:=by
  unfold ZG;rw [Bool.not_eq_true',List.any_eq_false];constructor
  · intro h k h1 h2 h3 hm;have:=h (p.Nc[k],(r.Nx[k],sw[k])) (by
      rw [List.mem_iff_getElem];exact ⟨k,by simp only [List.length_zip];omega,by simp only [List.getElem_zip]⟩)
    simp only [Qgn,hm,decide_true,Bool.true_and,Bool.not_eq_true',decide_eq_false_iff_not,Decidable.not_not] at this;exact this
  · intro h q hq;obtain ⟨k,hk,rfl⟩:=List.getElem_of_mem hq;simp only [List.length_zip] at hk;simp only [List.getElem_zip,Qgn,Bool.and_eq_true,decide_eq_true_eq,Bool.not_eq_true',decide_eq_false_iff_not,not_and,Decidable.not_not];exact fun hm=>h k (by omega) (by omega) (by omega) hm
theorem QHv {p:Nh} {sw:List Int} {r:Np} {a b:List Int} (h:ZG p sw r a=true) (hs:∀ s∈b,s∈a):ZG p sw r b=true :=
 liesB_iff.2 fun k h1 h2 h3 hm=>liesB_iff.1 h k h1 h2 h3 (hs _ hm)
theorem QHw {p:Nh} {sw:List Int} {r:Np} {a:List Int} {i:Nat} {v:Int} (hi:∀ h:i < p.Nc.length,p.Nc[i].Nv∉a) (h:ZG p sw r a=true):ZG p (sw.set i v) r a=true :=
 liesB_iff.2 fun k h1 h2 h3 hm=>by
  have hne:i≠k:=fun e=>by subst e;exact hi h1 hm
  rw [List.getElem_set_ne hne];exact liesB_iff.1 h k h1 h2 (by simpa using h3) hm
theorem leadsB_iff {p:Nh} {sw:List Int} {a b:Int}:Qah p sw a b=true↔∃ r∈p.Nk,JY r a b=true/\ZG p sw r [a,b]=true:=by
 unfold Qah;rw [List.any_eq_true];simp only [Bool.and_eq_true]
theorem Qrp {x:Ni} {s:Int} (h:Zp x s=false):∀ t∈x.Nb,s∉t.Ng:=by
 unfold Zp at h;rw [List.any_eq_false] at h;intro t ht hm;exact h t ht (decide_eq_true hm)
theorem Qff {p:Nh} {x:Ni} (h:StateOk p x) {a:Nat} (ha:a < x.Nb.length) {t:Nl} (h1:(t.Ng=[]/\t.Nq=0)\/(1<=t.Nq/\t.Nq<=t.Ng.length)) (h2:∀ s∈t.Ng,YK p s=true) (h3:t.Ng.Nodup)
  (h4:∀ j (hj:j < x.Nb.length),j≠a->∀ s∈t.Ng,s∉x.Nb[j].Ng) (h5:∀ k (hk:k+1 < t.Ng.length),Qah p x.Nc t.Ng[k] t.Ng[k+1]=true):StateOk p ⟨x.Nc,x.Nb.set a t,x.Nj⟩:=by
 have hm:∀ u∈x.Nb.set a t,u=t\/u∈x.Nb:=fun u hu=>by
  rcases List.mem_or_eq_of_mem_set hu with h | h
  ·exact .inr h
  ·exact .inl h
 refine ⟨h.sw,by simpa using h.tr,h.pos,h.cnt,fun u hu=>?_,fun u hu=>?_,fun u hu=>?_,fun i j hi hj hij s hs=>?_,fun u hu=>?_⟩
 ·rcases hm u hu with rfl | hu
  ·exact h1
  ·exact h.un u hu
 ·rcases hm u hu with rfl | hu
  ·exact h2
  ·exact h.sc u hu
 ·rcases hm u hu with rfl | hu
  ·exact h3
  ·exact h.nd u hu
 ·simp only [List.length_set] at hi hj;simp only [List.getElem_set] at hs ⊢;by_cases h6:a=i
  ·rw [if_pos h6] at hs;rw [if_neg (by omega)];exact h4 j hj (by omega) s hs
  ·rw [if_neg h6] at hs;by_cases h7:a=j
   ·rw [if_pos h7];exact fun hm=>h4 i hi (by omega) s hm hs
   ·rw [if_neg h7];exact h.dj i j hi hj hij s hs
 ·rcases hm u hu with rfl | hu
  ·exact h5
  ·exact h.ld u hu
theorem Qjt {p:Nh} {e:Nn} (h:ZS p e=0):0<=e.Kind/\e.Kind<=6:=by
 unfold ZS at h;by_cases h1:¬ (0<=e.Kind/\e.Kind<=6)
 ·rw [if_pos h1] at h;cases h
 ·omega
theorem Qul {p:Nh} {e:Nn} (h:ZS p e=0) (hk:e.Kind=2):0<=e.A/\e.A.toNat < p.Nc.length/\Y4 e.B=true:=by
 have h1:=Qjt h;unfold ZS at h;rw [if_neg (by omega),if_pos hk] at h;cases hb:Qik p e.A with
 | false=>rw [hb] at h;cases h
 | true =>
  rw [hb] at h;cases hc:Y4 e.B with
  | false=>rw [hc] at h;cases h
  | true =>
   unfold Qik at hb;simp at hb;exact ⟨hb.1,by omega,rfl⟩
theorem Quk {p:Nh} {e:Nn} (h:ZS p e=0) (hk:e.Kind≠2):0<=e.A/\e.A.toNat < p.Nb.length/\(e.Kind=0->YK p e.B=true)/\(e.Kind=1->0<=e.B/\e.B.toNat < p.Nk.length)/\(e.Kind≠0->e.Kind≠1->e.B=0):=by
 have h1:=Qjt h;unfold ZS at h;rw [if_neg (by omega),if_neg hk] at h;cases hb:Qcj p e.A with
 | false=>rw [hb] at h;cases h
 | true =>
  rw [hb,cond_true] at h;unfold Qcj at hb;simp at hb;refine ⟨hb.1,by omega,fun h0=>?_,fun h0=>?_,fun h0 h2=>?_⟩
  ·rw [if_pos h0] at h;cases hc:YK p e.B with
   | true=>rfl
   | false=>rw [hc] at h;cases h
  ·rw [if_neg (by omega),if_pos h0] at h;cases hc:Qhs p e.B with
   | false=>rw [hc] at h;cases h
   | true=>unfold Qhs at hc;simp at hc;omega
  ·rw [if_neg h0,if_neg h2] at h;by_cases h3:e.B=0
   ·exact h3
   ·rw [if_neg h3] at h;cases h
theorem Qmm {x:Ni} {e:Nn} (h:e.A.toNat < x.Nb.length):ZP x e=x.Nb[e.A.toNat]:=by
 unfold ZP;rw [List.getElem?_eq_getElem h];rfl
theorem Qzk {p:Nh} {e:Nn} (h:e.A.toNat < p.Nc.length):Qfk p e=p.Nc[e.A.toNat]:=by
 unfold Qfk;rw [List.getElem?_eq_getElem h];rfl
theorem Qqq {p:Nh} {e:Nn} (h:e.B.toNat < p.Nk.length):JZ p e=p.Nk[e.B.toNat]:=by
 unfold JZ;rw [List.getElem?_eq_getElem h];rfl
theorem Qzf {p:Nh} (hp:PlantOk p) {x:Ni} (h:StateOk p x) {e:Nn} (he:ZS p e=0) (hs:J1 p x e=0):StateOk p (JH p x e):=by
  have hk:=Qjt he;unfold JH;by_cases h2:e.Kind=2
  · rw [if_pos h2];obtain ⟨a0,a1,a2⟩:=Qul he h2;unfold J1 at hs;rw [if_pos h2] at hs;have hn:Zp x (Qfk p e).Nv=false:=by
      cases hb:Zp x (Qfk p e).Nv with
      | false=>rfl
      | true=>rw [hb] at hs;cases hs
    rw [Qzk a1] at hn;refine ⟨by simpa using h.sw,h.tr,fun n hn=>?_,h.cnt,h.un,h.sc,h.nd,h.dj,fun t ht k hk=>?_⟩
    · rcases List.mem_or_eq_of_mem_set hn with h3 | rfl
      · exact h.pos n h3
      · exact a2
    · obtain ⟨r,hr,h3,h4⟩:=leadsB_iff.1 (h.ld t ht k hk);refine leadsB_iff.2 ⟨r,hr,h3,QHw (fun hi hm=>?_) h4⟩;have h5:=Qrp hn t ht;rcases List.mem_cons.1 hm with e1 | hm
      · rw [e1] at h5;exact h5 (List.getElem_mem _)
      · rw [List.mem_singleton.1 hm] at h5;exact h5 (List.getElem_mem _)
  rw [if_neg h2];obtain ⟨a0,a1,a2,a3,a4⟩:=Quk he h2;have ha:e.A.toNat < x.Nb.length:=by rw [h.tr];exact a1
  have ht:ZP x e∈x.Nb:=by rw [Qmm ha];exact List.getElem_mem ha
  have hd:∀ j (hj:j < x.Nb.length),j≠e.A.toNat->∀ s∈(ZP x e).Ng,s∉x.Nb[j].Ng:=fun j hj hne s hs=>by
    rw [Qmm ha] at hs;exact h.dj _ j ha hj (by omega) s hs
  have hu:=h.un _ ht;have hsc:=h.sc _ ht;have hnd:=h.nd _ ht;have hld:=h.ld _ ht;unfold J1 at hs;rw [if_neg h2] at hs;unfold trX;generalize ZP x e=t at *
  by_cases h0:e.Kind=0
  · rw [if_pos h0] at hs;rw [if_pos h0];by_cases hc:t.Ng.length=0
    · rw [if_pos hc] at hs;have hn:Zp x e.B=false:=by
        cases hb:Zp x e.B with
        | false=>rfl
        | true=>rw [hb] at hs;cases hs
      refine Qff h ha (.inr (by simp)) (fun s hs=>?_) (by simp) (fun j hj hne s hs hm=>?_) (fun k hk=>?_)
      · simp only [List.mem_singleton] at hs;subst hs;exact a2 h0
      · simp only [List.mem_singleton] at hs;subst hs;exact Qrp hn _ (List.getElem_mem hj) hm
      · simp at hk
    · rw [if_neg hc] at hs;cases hs
  rw [if_neg h0] at hs;rw [if_neg h0];by_cases hc:t.Ng.length=0
  · rw [if_pos hc] at hs;cases hs
  rw [if_neg hc] at hs;have hu2:1<=t.Nq/\t.Nq<=t.Ng.length:=by
    rcases hu with ⟨h3,_⟩ | h3
    · rw [h3] at hc;exact absurd rfl hc
    · exact h3
  by_cases h1:e.Kind=1
  · rw [if_pos h1] at hs;rw [if_pos h1];obtain ⟨b0,b1⟩:=a3 h1;have hr:JZ p e∈p.Nk:=by rw [Qqq b1];exact List.getElem_mem b1
    generalize JZ p e=r at *
    by_cases h3:r.Nf.head?=t.Ng.getLast?
    · rw [if_pos h3] at hs;have hn:(r.Nf.drop 1).any (Zp x)=false:=by
        cases hb:(r.Nf.drop 1).any (Zp x) with
        | false=>rfl
        | true=>rw [hb] at hs;cases hs
      have hl:ZG p x.Nc r r.Nf=true:=by
        rw [hn] at hs;cases hb:ZG p x.Nc r r.Nf with
        | true=>rfl
        | false=>rw [hb] at hs;cases hs
      rw [List.any_eq_false] at hn;have hn2:∀ s∈r.Nf.drop 1,∀ u∈x.Nb,s∉u.Ng:=fun s hs=>Qrp (by have:=hn s hs;simpa using this)
      have h2r:=hp.r2 r hr;have hlast:∀ hi:t.Ng.length - 1 < t.Ng.length,∀ hj:0 < r.Nf.length,t.Ng[t.Ng.length - 1]=r.Nf[0]:=fun hi hj=>by
        rw [List.head?_eq_getElem?,List.getLast?_eq_getElem?,List.getElem?_eq_getElem hj,List.getElem?_eq_getElem hi] at h3;exact (Option.some.inj h3).symm
      refine Qff h ha (.inr ?_) (fun s hs=>?_) ?_ (fun j hj hne s hs=>?_) (fun k hk=>?_)
      · simp only [List.length_append];omega
      · rcases List.mem_append.1 hs with h4 | h4
        · exact hsc s h4
        · exact hp.rs r hr s (List.mem_of_mem_drop h4)
      · show (t.Ng++r.Nf.drop 1).Nodup;rw [List.nodup_append];refine ⟨hnd,List.Nodup.sublist (List.drop_sublist _ _) (hp.rd r hr),fun s hs u hu e=>?_⟩;subst e;exact hn2 s hu t ht hs
      · rcases List.mem_append.1 hs with h4 | h4
        · exact hd j hj hne s h4
        · exact hn2 s h4 _ (List.getElem_mem hj)
      · simp only [List.length_append,List.length_drop] at hk;by_cases h5:k+1 < t.Ng.length
        · simp only [List.getElem_append,h5,dif_pos,show k < t.Ng.length by omega];exact hld k h5
        · have e2 : (t.Ng ++ r.Nf.drop 1)[k + 1]'(by simp only [List.length_append, List.length_drop]; omega) = r.Nf[k + 1 - t.Ng.length + 1]'(by omega) := by
            rw [List.getElem_append_right (by omega),List.getElem_drop];congr 1;omega
          have e1:(t.Ng++r.Nf.drop 1)[k]'(by simp only [List.length_append, List.length_drop];omega)=r.Nf[k+1 - t.Ng.length]'(by omega) := by
            by_cases h6:k+1=t.Ng.length
            · rw [List.getElem_append_left (show k < t.Ng.length by omega)];have:=hlast (by omega) (by omega);simp only [show k+1 - t.Ng.length=0 by omega,<-this];congr 1;omega
            · rw [List.getElem_append_right (by omega),List.getElem_drop];congr 1;omega
          rw [e1,e2];refine leadsB_iff.2 ⟨r,hr,pairB_iff.2 ⟨k+1 - t.Ng.length,by omega,rfl,rfl⟩,QHv hl fun s hs=>?_⟩;rcases List.mem_cons.1 hs with rfl | hs
          · exact List.getElem_mem _
          · rw [List.mem_singleton.1 hs];exact List.getElem_mem _
    · rw [if_neg h3] at hs;cases hs
  rw [if_neg h1] at hs;rw [if_neg h1];by_cases h4:e.Kind=4
  · rw [if_pos h4] at hs;rw [if_neg (by omega),if_pos h4];have hx:1 < t.Nq:=by
      by_cases h5:1 < t.Nq
      · exact h5
      · rw [if_neg h5] at hs;cases hs
    refine Qff h ha (.inr ?_) (fun s hs=>hsc s (List.mem_of_mem_drop hs)) (List.Nodup.sublist (List.drop_sublist _ _) hnd) (fun j hj hne s hs=>hd j hj hne s (List.mem_of_mem_drop hs)) (fun k hk=>?_)
    · simp only [List.length_drop];omega
    · simp only [List.length_drop] at hk;simp only [List.getElem_drop];have:=hld (1+k) (by omega);exact this
  rw [if_neg h4] at hs;rw [show (if e.Kind=4 then (⟨t.Ng.drop 1,t.Nq - 1⟩:Nl) else if e.Kind=5 then ⟨t.Ng.take (t.Ng.length - 1),t.Nq⟩ else ⟨[],0⟩)=(if e.Kind=5 then ⟨t.Ng.take (t.Ng.length - 1),t.Nq⟩ else ⟨[],0⟩) from if_neg h4];by_cases h35:e.Kind=3\/e.Kind=5
  · rw [if_pos h35] at hs;have hx:t.Nq < t.Ng.length:=by
      by_cases h5:t.Nq < t.Ng.length
      · exact h5
      · rw [if_neg h5] at hs;cases hs
    by_cases h3:e.Kind=3
    · rw [if_pos h3];exact Qff h ha (.inr ⟨by show 1<=t.Nq+1;omega,by show t.Nq+1<=(t.Ng.length:Int);omega⟩) hsc hnd hd hld
    · rw [if_neg h3,if_pos (by omega)];refine Qff h ha (.inr ?_) (fun s hs=>hsc s (List.mem_of_mem_take hs)) (List.Nodup.sublist (List.take_sublist _ _) hnd) (fun j hj hne s hs=>hd j hj hne s (List.mem_of_mem_take hs)) (fun k hk=>?_)
      · simp only [List.length_take];omega
      · simp only [List.length_take] at hk;simp only [List.getElem_take];exact hld k (by omega)
  · rw [if_neg (by omega),if_neg (by omega)];exact Qff h ha (.inl ⟨rfl,rfl⟩) (fun s hs=>by simp at hs) (by simp) (fun j hj hne s hs=>by simp at hs) (fun k hk=>by simp at hk)
end Go.Gw

end
section
set_option maxRecDepth 4096
namespace Go.Gw
open Go
attribute [local irreducible] loop
def chE (p:Nh) (x:Ni) (n:Nat) (t:Nl) (k:Nat) (s:Int):Int :=
 bif YK p s then (bif decide (s∈t.Ng.take k)||(x.Nb.take n).any (fun o=>decide (s∈o.Ng)) then 17 else if k=0 then 0 else bif Qah p x.Nc (t.Ng[k - 1]?.getD 0) s then 0 else 23) else 6
def Qau (p:Nh) (x:Ni) (n:Nat) (t:Nl) (k:Nat):Int:=(t.Ng[k]?.map (chE p x n t k)).getD 0
def Qbi (t:Nl):Bool:=if t.Ng.length=0 then decide (t.Nq=0) else decide (1<=t.Nq)&&decide (t.Nq<=t.Ng.length)
def tsE (p:Nh) (x:Ni) (n:Nat) (t:Nl):Int:=bif Qbi t then (match XJ (Qau p x n t) t.Ng.length with | some k=>Qau p x n t k | none=>0) else 3
def J6 (p:Nh) (x:Ni) (n:Nat):Int:=(x.Nb[n]?.map (tsE p x n)).getD 0
def Qmf (p:Nh) (x:Ni):Int :=
 if x.Nc.length=p.Nc.length/\x.Nb.length=p.Nb.length then
  (bif x.Nc.all Y4&&Q7 x.Nj then (match XJ (J6 p x) x.Nb.length with | some k=>J6 p x k | none=>0) else 2) else 10
theorem tsE_zero {p:Nh} {x:Ni} {n:Nat} {t:Nl}:tsE p x n t=0↔Qbi t=true/\∀ k (hk:k < t.Ng.length),chE p x n t k t.Ng[k]=0:=by
 unfold tsE;cases hu:Qbi t with
 | false=>simp
 | true =>
  simp only [cond_true,true_and];have hg:∀ k (hk:k < t.Ng.length),Qau p x n t k=chE p x n t k t.Ng[k]:=fun k hk=>JV _ _ _ hk
  cases hf:XJ (Qau p x n t) t.Ng.length with
  | some k =>
   obtain ⟨h1,h2,_⟩:=Qav hf;constructor
   ·intro h;exact absurd h h2
   ·intro h;exact absurd ((hg k h1).trans (h k h1)) h2
  | none=>exact ⟨fun _ k hk=>(hg k hk).symm.trans (Qgj hf k hk),fun _=>rfl⟩
theorem chE_zero {p:Nh} {x:Ni} {n:Nat} {t:Nl} {k:Nat} {s:Int}:chE p x n t k s=0↔YK p s=true/\s∉t.Ng.take k/\(∀ o∈x.Nb.take n,s∉o.Ng)/\(k≠0->Qah p x.Nc (t.Ng[k - 1]?.getD 0) s=true):=by
  unfold chE;cases YK p s with
  | false=>simp
  | true =>
    simp only [cond_true,true_and];by_cases h1:s∈t.Ng.take k
    · simp [h1]
    by_cases h2:∀ o∈x.Nb.take n,s∉o.Ng
    · have h3 : (x.Nb.take n).any (fun o => decide (s ∈ o.Ng)) = false := by
        rw [List.any_eq_false];intro o ho hm;exact h2 o ho (of_decide_eq_true hm)
      rw [h3,decide_eq_false h1];by_cases hk:k=0
      · simp [hk];exact h2
      · simp only [Bool.or_false,cond_false,if_neg hk];cases Qah p x.Nc (t.Ng[k - 1]?.getD 0) s with
        | false=>simp [hk]
        | true=>simp [h1];exact h2
    · have h3 : (x.Nb.take n).any (fun o => decide (s ∈ o.Ng)) = true := by
        cases hb:(x.Nb.take n).any (fun o=>decide (s∈o.Ng)) with
        | true=>rfl
        | false =>
          rw [List.any_eq_false] at hb;exact absurd (fun o ho hm=>hb o ho (decide_eq_true hm)) h2
      rw [h3,Bool.or_true];simp [h2]
theorem undB_iff {t:Nl}:Qbi t=true↔(t.Ng=[]/\t.Nq=0)\/(1<=t.Nq/\t.Nq<=t.Ng.length):=by
 unfold Qbi;by_cases h:t.Ng.length=0
 ·rw [if_pos h];have h2:t.Ng=[]:=List.length_eq_zero_iff.1 h;simp only [decide_eq_true_eq];constructor
  ·intro h3;exact .inl ⟨h2,h3⟩
  ·rintro (h3 | h3)
   ·exact h3.2
   ·omega
 ·rw [if_neg h];simp only [Bool.and_eq_true,decide_eq_true_eq];constructor
  ·intro h3;exact .inr h3
  ·rintro (h3 | h3)
   ·rw [h3.1] at h;exact absurd rfl h
   ·exact h3
theorem state_iff {p:Nh} {x:Ni}:Qmf p x=0↔StateOk p x:=by
  have hg:∀ k (hk:k < x.Nb.length),J6 p x k=tsE p x k x.Nb[k]:=fun k hk=>JV _ _ _ hk
  unfold Qmf;constructor
  · intro h;by_cases h1:x.Nc.length=p.Nc.length/\x.Nb.length=p.Nb.length
    · rw [if_pos h1] at h;cases h2:x.Nc.all Y4&&Q7 x.Nj with
      | false=>rw [h2] at h;cases h
      | true =>
        rw [h2,cond_true] at h;rw [Bool.and_eq_true,List.all_eq_true] at h2;cases hf:XJ (J6 p x) x.Nb.length with
        | some k=>rw [hf] at h;exact absurd h (Qav hf).2.1
        | none =>
          have hz:∀ n (hn:n < x.Nb.length),Qbi x.Nb[n]=true/\∀ k (hk:k < x.Nb[n].Ng.length),chE p x n x.Nb[n] k x.Nb[n].Ng[k]=0:=fun n hn=>tsE_zero.1 ((hg n hn).symm.trans (Qgj hf n hn))
          refine ⟨h1.1,h1.2,h2.1,h2.2,fun t ht=>?_,fun t ht s hs=>?_,fun t ht=>?_,fun i j hi hj hij s hs hm=>?_,fun t ht k hk=>?_⟩
          · obtain ⟨n,hn,rfl⟩:=List.getElem_of_mem ht;exact undB_iff.1 (hz n hn).1
          · obtain ⟨n,hn,rfl⟩:=List.getElem_of_mem ht;obtain ⟨k,hk,rfl⟩:=List.getElem_of_mem hs;exact (chE_zero.1 ((hz n hn).2 k hk)).1
          · obtain ⟨n,hn,rfl⟩:=List.getElem_of_mem ht;exact Qxd fun k hk=>(chE_zero.1 ((hz n hn).2 k hk)).2.1
          · rcases Nat.lt_or_gt_of_ne hij with h3 | h3
            · obtain ⟨k,hk,rfl⟩:=List.getElem_of_mem hm;exact (chE_zero.1 ((hz j hj).2 k hk)).2.2.1 _ (List.mem_take_iff_getElem.2 ⟨i,by omega,rfl⟩) hs
            · obtain ⟨k,hk,rfl⟩:=List.getElem_of_mem hs;exact (chE_zero.1 ((hz i hi).2 k hk)).2.2.1 _ (List.mem_take_iff_getElem.2 ⟨j,by omega,rfl⟩) hm
          · obtain ⟨n,hn,rfl⟩:=List.getElem_of_mem ht;have:=(chE_zero.1 ((hz n hn).2 (k+1) hk)).2.2.2 (by omega);rwa [Nat.add_sub_cancel,List.getElem?_eq_getElem (show k < x.Nb[n].Ng.length by omega),Option.getD_some] at this
    · rw [if_neg h1] at h;cases h
  · intro h;rw [if_pos ⟨h.sw,h.tr⟩,show (x.Nc.all Y4&&Q7 x.Nj)=true by rw [Bool.and_eq_true,List.all_eq_true];exact ⟨h.pos,h.cnt⟩,cond_true];rw [QFz fun n hn=>by
      rw [hg n hn,tsE_zero];have ht:=List.getElem_mem hn;refine ⟨undB_iff.2 (h.un _ ht),fun k hk=>chE_zero.2 ⟨h.sc _ ht _ (List.getElem_mem hk),QMr (h.nd _ ht) hk,fun o ho hm=>?_,fun hk0=>?_⟩⟩
      · obtain ⟨i,hi,rfl⟩:=List.mem_take_iff_getElem.1 ho;exact h.dj i n (by omega) hn (by omega) _ hm (List.getElem_mem hk)
      · rw [List.getElem?_eq_getElem (show k - 1 < x.Nb[n].Ng.length by omega),Option.getD_some];have:=h.ld _ ht (k - 1) (by omega);simp only [show k - 1+1=k by omega] at this;exact this]
end Go.Gw

end
section
set_option maxRecDepth 4096
namespace Go.Gw
open Go
attribute [local irreducible] loop
theorem QGt {a b:List Int} (ha:0 < a.length) (hb:0 < b.length):decide (a[0]=b[b.length - 1])=decide (a.head?=b.getLast?):=by
 rw [List.head?_eq_getElem?,List.getLast?_eq_getElem?,List.getElem?_eq_getElem ha,List.getElem?_eq_getElem (show b.length - 1 < b.length by omega)];simp only [Option.some.injEq]
theorem QCd {p:Nh} (hp:PlantOk p) {x:Ni} (h:StateOk p x) {e:Nn} (he:ZS p e=0) :
    Runs (Qeo (some ⟨p,x⟩) e) fun r=>r.2=J1 p x e/\(J1 p x e=0->r.1=some ⟨p,JH p x e⟩):=by
  have hs:=h.s hp;have hw4:=hp.w4;have ht3:=hp.t3;have hkd:=Qjt he;have hsl:=h.sw;have htl:=h.tr;unfold Qeo;by_cases h2:e.Kind=2
  · obtain ⟨a0,a1,a2⟩:=Qul he h2;have e1:J1 p x e=(bif Zp x (Qfk p e).Nv then 17 else 0):=by unfold J1;rw [if_pos h2]
    have e2:JH p x e=⟨x.Nc.set e.A.toNat e.B,x.Nb,x.Nj⟩:=by unfold JH;rw [if_pos h2]
    rw [e1,e2,Qzk a1,decide_eq_true h2,cond_true,Qq];show Runs (Option.bind (idx p.Nc e.A) _) _;rw [Qgm a0 a1,Qq,Qrq p hs _ (by simp),Qq];simp only [List.any_cons,List.any_nil,Bool.or_false];cases Zp x p.Nc[e.A.toNat].Nv with
    | true=>exact Runs.some ⟨rfl,fun hh=>by cases hh⟩
    | false =>
      simp only [cond_false];rw [Qny _ (by show x.Nc.length < _;omega),Qq];show Runs (Option.bind (idx x.Nc e.A) _) _;rw [Qgm a0 (by omega),Qq];exact Runs.some ⟨rfl,fun _=>rfl⟩
  obtain ⟨a0,a1,a2,a3,a4⟩:=Quk he h2;have ha:e.A.toNat < x.Nb.length:=by omega
  have htm:ZP x e∈x.Nb:=by rw [Qmm ha];exact List.getElem_mem ha
  have hcl:=h.len htm;have hs8:=hp.s8;have hu:=h.un _ htm;have e2:JH p x e=⟨x.Nc,x.Nb.set e.A.toNat (trX p (ZP x e) e),x.Nj⟩:=by unfold JH;rw [if_neg h2]
  have hnx:=fun c u=>QKk p x a0 ha (by omega) c u
  rw [e2,decide_eq_false h2,cond_false,Qq];show Runs (Option.bind (idx x.Nb e.A) _) _;rw [Qgm a0 ha,Qq,<-Qmm ha];unfold J1 trX;simp only [if_neg h2];generalize ZP x e=t at *
  by_cases h0:e.Kind=0
  · simp only [if_pos h0,decide_eq_true h0,cond_true];rw [X7,Qq,Qrq p hs _ (by simp),Qq,X7,Qq,Zb _ (by simp),Qq,Qq];simp only [List.any_cons,List.any_nil,Bool.or_false,QGk];by_cases hc:t.Ng.length=0
    · simp only [hc,Int.natCast_zero,decide_true,cond_true,ne_eq,not_true_eq_false,if_false,if_true];cases Zp x e.B with
      | true=>exact Runs.some ⟨rfl,fun hh=>by cases hh⟩
      | false =>
        simp only [Bool.not_false,cond_true,decide_true,Bool.not_true,cond_false];rw [hnx,Qq];exact Runs.some ⟨rfl,fun _=>rfl⟩
    · rw [if_neg hc,decide_eq_false (show ¬ (t.Ng.length:Int)=0 by omega)];exact Runs.some ⟨rfl,fun hh=>by cases hh⟩
  simp only [if_neg h0,decide_eq_false h0,cond_false];by_cases hc:t.Ng.length=0
  · rw [decide_eq_true (show (t.Ng.length:Int)=0 by omega),if_pos hc];exact Runs.some ⟨rfl,fun hh=>by cases hh⟩
  rw [decide_eq_false (show ¬ (t.Ng.length:Int)=0 by omega),cond_false,X7,Qq,if_neg hc];have hu2:1<=t.Nq/\t.Nq<=t.Ng.length:=by
    rcases hu with ⟨h3,_⟩ | h3
    · rw [h3] at hc;exact absurd rfl hc
    · exact h3
  by_cases h1:e.Kind=1
  · simp only [if_pos h1,decide_eq_true h1,cond_true];obtain ⟨b0,b1⟩:=a3 h1;rw [show (⟨p,x⟩:Nm).Ny.Nk=p.Nk from rfl,Qgm b0 b1,Qq,<-Qqq b1];have hr:JZ p e∈p.Nk:=by rw [Qqq b1];exact List.getElem_mem b1
    generalize JZ p e=r at *
    have hr2:=hp.r2 r hr;have hr8:=hp.r8 r hr;have hrn:=hp.rn r hr;rw [Qtz (by omega),Qq,show (0:Int)=((0:Nat):Int) from rfl,XV (show 0 < r.Nf.length by omega),Qq,
      show w64 ((t.Ng.length:Int) - 1)=((t.Ng.length - 1:Nat):Int) by rw [Yz (by omega)];omega,XV (show t.Ng.length - 1 < t.Ng.length by omega),Qq,X7,Qq,
      Qrq p hs _ (by simp;omega),Qq,X7,Qq,Qvg hrn hsl (by omega) (by omega),Qq,X7,Qq,Zb _ (by simp),Qq,QGt (by omega) (by omega),Qeh]
    by_cases h3:r.Nf.head?=t.Ng.getLast?
    · simp only [h3,decide_true,cond_true,Int.natCast_zero,ne_eq,not_true_eq_false,if_false,if_true];cases hb:(r.Nf.drop 1).any (Zp x) with
      | true=>exact Runs.some ⟨rfl,fun hh=>by cases hh⟩
      | false =>
        cases hl:ZG p x.Nc r r.Nf with
        | false=>exact Runs.some ⟨rfl,fun hh=>by cases hh⟩
        | true =>
          simp only [Bool.not_false,cond_true,Int.natCast_zero,not_true_eq_false,if_false,decide_true,Bool.not_true,cond_false];rw [QCz _ _ (by omega) (by simp;omega),Qq,hnx,Qq];exact Runs.some ⟨rfl,fun _=>rfl⟩
    · simp only [h3,decide_false,cond_false,if_false];exact Runs.some ⟨rfl,fun hh=>by cases hh⟩
  simp only [if_neg h1,decide_eq_false h1,cond_false];by_cases h3:e.Kind=3
  · simp only [if_pos h3,decide_eq_true h3,cond_true];rw [if_neg (by omega),if_pos (.inl h3),hnx,Qq,Yz (by omega)];by_cases h5:t.Nq < t.Ng.length
    · rw [if_pos h5,decide_eq_true h5];exact Runs.some ⟨rfl,fun _=>rfl⟩
    · rw [if_neg h5,decide_eq_false h5];exact Runs.some ⟨rfl,fun hh=>by cases hh⟩
  simp only [if_neg h3,decide_eq_false h3,cond_false];by_cases h4:e.Kind=4
  · simp only [if_pos h4,decide_eq_true h4,cond_true];rw [Qtz (by omega),Qq,hnx,Qq,X7,Qq,Yz (by omega)];by_cases h5:1 < t.Nq
    · rw [if_pos h5,decide_eq_true h5];exact Runs.some ⟨rfl,fun _=>rfl⟩
    · rw [if_neg h5,decide_eq_false h5];exact Runs.some ⟨rfl,fun hh=>by cases hh⟩
  simp only [if_neg h4,decide_eq_false h4,cond_false];by_cases h5:e.Kind=5
  · simp only [if_pos h5,decide_eq_true h5,cond_true];rw [if_pos (.inr h5),show w64 ((t.Ng.length:Int) - 1)=((t.Ng.length - 1:Nat):Int) by rw [Yz (by omega)];omega,Qgh (by omega),Qq,hnx,Qq];by_cases h6:t.Nq < t.Ng.length
    · rw [if_pos h6,decide_eq_true h6];exact Runs.some ⟨rfl,fun _=>rfl⟩
    · rw [if_neg h6,decide_eq_false h6];exact Runs.some ⟨rfl,fun hh=>by cases hh⟩
  simp only [if_neg h5,decide_eq_false h5,cond_false];rw [if_neg (by omega),hnx,Qq,X7,Qq];by_cases h6:t.Ng.length=1
  · rw [if_pos h6,decide_eq_true (by omega)];exact Runs.some ⟨rfl,fun _=>rfl⟩
  · rw [if_neg h6,decide_eq_false (by omega)];exact Runs.some ⟨rfl,fun hh=>by cases hh⟩
/-! ### The beginning, copies -/
theorem QSg (p:Nh) {x:Ni} (h:StateS x):Qgy (some ⟨p,x⟩)=some x:=by
 have h1:=h.sw;have h2:=h.tr;unfold Qgy;rw [Qq];show Option.bind (Option.bind (Qcd x.Nc) _) _=_;rw [Qny _ (by omega),Qq,Qq];simp only [Qq];have hl:=Qhf (step:=Qgx ⟨p,x⟩) (o:=x.Nb) (fun k=>((k:Int),x.Nb.take k)) x.Nb.length (fun k hk=>by
  unfold Qgx;show (bif decide ((k:Int) < (x.Nb.length:Int)) then Option.bind (idx x.Nb (k:Int)) _ else _)=_;rw [Yu hk,cond_true,XV hk,Qq,Qny _ (by have:=h.ch _ (List.getElem_mem hk);omega),Qq,Qad (by simp;omega),Qq,Yw k (by omega)];show some (Sum.inl (_,x.Nb.take k++[x.Nb[k]]))=_;have:=Qro x.Nb id k hk;simp only [List.map_id,id_eq] at this;rw [this]) (by
  unfold Qgx;show (bif decide ((x.Nb.length:Int) < (x.Nb.length:Int)) then _ else _)=_;rw [Yx,List.take_length];rfl)
 have hl2:loop (Qgx ⟨p,x⟩) (0,([]:List Nl))=some x.Nb:=hl;rw [hl2];rfl
end Go.Gw

end
section
set_option maxRecDepth 4096
namespace Go.Gw
open Go
attribute [local irreducible] loop
def Qar:Ni:=⟨[],[],0⟩
def JU (p:Nh) (x:Ni) (e:Nn):Int:=if ZS p e=0 then J1 p x e else ZS p e
def evs (p:Nh):Ni->Nat->List Nn->Ni⊕(Nat×Int)
 | x,_,[]=>.inl x
 | x,k,e::l=>if JU p x e=0 then evs p (JH p x e) (k+1) l else .inr (k,JU p x e)
theorem QEl {p:Nh} (hp:PlantOk p) {x:Ni} (h:StateOk p x) {e:Nn} (he:JU p x e=0):ZS p e=0/\J1 p x e=0/\StateOk p (JH p x e):=by
 unfold JU at he;by_cases h1:ZS p e=0
 ·rw [if_pos h1] at he;exact ⟨h1,he,Qzf hp h h1 he⟩
 ·rw [if_neg h1] at he;exact absurd he h1
end Go.Gw

end
section
set_option maxRecDepth 4096
namespace Go.Gw
open Go
attribute [local irreducible] loop
end Go.Gw

end
section
set_option maxRecDepth 4096
namespace Go.Gw
open Go
attribute [local irreducible] loop
end Go.Gw

end
section
set_option maxRecDepth 4096
namespace Go.Gw
open Go
attribute [local irreducible] loop
end Go.Gw

end
section
set_option maxRecDepth 4096
namespace Go.Gw
open Go
attribute [local irreducible] loop
/-! ### Copies -/
theorem Qjn (l:List Int) (h:l.length < 1000000):Qbm l=some l:=by
 unfold Qbm;rw [Qad (by simp;omega)];rfl
theorem Qtx (l:List ByteArray) (h:l.length < 1000000):Qga l=some l:=by
 unfold Qga;rw [Qad (by simp;omega)];rfl
theorem Qzp {α:Type} (l:List α) (k:Nat) (hk:k < l.length):l.take k++[l[k]]=l.take (k+1):=by
 have:=Qro l id k hk;simp
theorem QDe {p:Nh} (h:PlantS p):Qhm p=some p:=by
 have h1:=h.se;have h2:=h.tr;have h3:=h.sw;have h4:=h.ro;have hl:=Qhf (step:=Qhl p) (o:=p.Nk) (fun k=>((k:Int),p.Nk.take k)) p.Nk.length (fun k hk=>by
  obtain ⟨_,hr,hn⟩:=h.rn _ (List.getElem_mem hk);unfold Qhl;simp only [Yu hk,cond_true,XV hk,Qq];rw [Qjn _ (by omega),Qq,Qjn _ (by omega),Qq,Qad (by simp;omega),Qq,Yw k (by omega),Qzp _ _ hk]) (by
  unfold Qhl;simp only [Yx,List.take_length];rfl)
 have hl2:loop (Qhl p) (0,([]:List Np))=some p.Nk:=hl;unfold Qhm;rw [Qtx _ (by omega),Qq,Qtx _ (by omega),Qq,Qad (by simp;omega),Qq,Qq];simp only [List.nil_append];rw [hl2];rfl
theorem QDf {x:Ni} (h:StateS x):Qho x=some x:=by
 have h1:=h.sw;have h2:=h.tr;have hl:=Qhf (step:=Qhn x) (o:=x.Nb) (fun k=>((k:Int),x.Nb.take k)) x.Nb.length (fun k hk=>by
  unfold Qhn;simp only [Yu hk,cond_true,XV hk,Qq];rw [Qjn _ (by have:=h.ch _ (List.getElem_mem hk);omega),Qq,Qad (by simp;omega),Qq,Yw k (by omega)];show some (Sum.inl (_,x.Nb.take k++[x.Nb[k]]))=_;rw [Qzp _ _ hk]) (by
  unfold Qhn;simp only [Yx,List.take_length];rfl)
 have hl2:loop (Qhn x) (0,([]:List Nl))=some x.Nb:=hl;unfold Qho;rw [Qjn _ (by omega),Qq,Qq];simp only;rw [hl2];rfl
/-! ### Equal ones -/
theorem Qva (a b:List Int) (ha:a.length < 1000000):Qgb a b=some (decide (a=b)):=by
 unfold Qgb;by_cases hl:a.length=b.length
 ·rw [decide_eq_true (by omega),Bool.not_true,cond_false,Zw (a.zip b) (fun x=>!decide (x.1=x.2)) (fun _ _=>false),Qq,Qog a b hl]
  ·intro k hk;rw [Qmz hl] at hk;unfold Qno;rw [Yu hk,cond_true,XV hk,Qq,XV (show k < b.length by omega),Qq,Yw k (by omega)];simp only [List.getElem_zip]
  ·rw [Qmz hl];unfold Qno;rw [Yx];rfl
 ·rw [decide_eq_false (by omega)];simp only [Bool.not_false,cond_true];rw [decide_eq_false];intro e;exact hl (by rw [e])
theorem QPd {x:Ni} (h:StateS x) (y:Ni):Qhp x y=some (decide (x=y)):=by
  have h1:=h.sw;have h2:=h.tr;cases x with
  | mk sw tr c =>
  cases y with
  | mk sw2 tr2 c2 =>
  simp only at h1 h2;unfold Qhp;simp only [Qva sw sw2 (by omega),Qq,Ni.mk.injEq];by_cases e1:sw=sw2
  · by_cases e2:c=c2
    · by_cases hl:tr.length=tr2.length
      · rw [decide_eq_true e1,decide_eq_true e2,decide_eq_true (show (tr.length:Int)=tr2.length by omega)];simp only [Bool.not_true,Bool.or_self,cond_false];have key:loop (Qlq ⟨sw,tr,c⟩ ⟨sw2,tr2,c2⟩) 0=_:=Zw (tr.zip tr2) (fun x=>!decide (x.1=x.2)) (fun _ _=>false) (fun k hk=>by
          rw [Qmz hl] at hk;unfold Qlq;simp only [Yu hk,cond_true,XV hk,Qq,XV (show k < tr2.length by omega)];rw [Qva _ _ (by have:(tr[k]).Ng.length < 1000:=h.ch _ (List.getElem_mem hk);omega),Qq,Yw k (by omega)];simp only [List.getElem_zip];cases h3:tr[k] with
          | mk ch un =>
          cases h4:tr2[k]'(by omega) with
          | mk ch2 un2 =>
          simp only [Nl.mk.injEq];by_cases e3:ch=ch2
          · by_cases e4:un=un2
            · simp [e3,e4]
            · simp [e3,e4]
          · simp [e3]) (by
          rw [Qmz hl];unfold Qlq;simp only [Yx];rfl)
        rw [key,Qq,Qog tr tr2 hl];simp [e1,e2]
      · rw [decide_eq_false (show ¬ (tr.length:Int)=tr2.length by omega)];have:tr≠tr2:=fun e=>hl (by rw [e])
        simp [this]
    · simp [e2]
  · simp [e1]
/-! ### The Qvh -/
theorem QGa (p:Nh):Qej p=some true/\PlantS p/\(p.Nf.length<=4\/8 < p.Nf.length)\/Qej p=some false:=by
 unfold Qej;cases hb:(((((decide (4 < (p.Nf.length:Int))&&decide ((p.Nf.length:Int)<=8))||decide (10 < (p.Nf.length:Int)))||decide (5 < (p.Nb.length:Int)))||decide (6 < (p.Nc.length:Int)))||decide (12 < (p.Nk.length:Int))) with
 | true=>exact .inr rfl
 | false =>
  rw [cond_false];simp only [Bool.or_eq_false_iff,Bool.and_eq_false_iff,decide_eq_false_iff_not] at hb;have h1:p.Nf.length < 1000:=by omega
  have h2:p.Nb.length < 1000:=by omega
  have h3:p.Nc.length < 1000:=by omega
  have h4:p.Nk.length < 1000:=by omega
  have l0:loop (Qkc p) 0=some (XY (fun s:ByteArray=>decide (20 < (s.size:Int))) (fun _ _=>false) 0 p.Nf):=Zw p.Nf _ _ (fun k hk=>by
   unfold Qkc;rw [Yu hk,cond_true,XV hk,Qq,Yw k (by omega)]) (by unfold Qkc;rw [Yx];rfl)
  have l1:loop (Qkd p) 0=some (XY (fun s:ByteArray=>decide (20 < (s.size:Int))) (fun _ _=>false) 0 p.Nb):=Zw p.Nb _ _ (fun k hk=>by
   unfold Qkd;rw [Yu hk,cond_true,XV hk,Qq,Yw k (by omega)]) (by unfold Qkd;rw [Yx];rfl)
  have l2:loop (Qke p) 0=some (XY (fun s:Nu=>decide (20 < (s.Name.size:Int))) (fun _ _=>false) 0 p.Nc):=Zw p.Nc _ _ (fun k hk=>by
   unfold Qke;rw [Yu hk,cond_true,XV hk,Qq,Yw k (by omega)]) (by unfold Qke;rw [Yx];rfl)
  have l3:loop (Qkf p) 0=some (XY (fun r:Np=>decide (20 < (r.Name.size:Int))||(decide (10 < (r.Nf.length:Int))||decide (6 < (r.Nx.length:Int)))) (fun _ _=>false) 0 p.Nk):=Zw p.Nk _ _ (fun k hk=>by
   unfold Qkf;simp only [Yu hk,cond_true,XV hk,Qq,Yw k (show k < 4611686018427387904 by omega)];cases decide (20 < (p.Nk[k].Name.size:Int))<;>cases decide (10 < (p.Nk[k].Nf.length:Int))<;>cases decide (6 < (p.Nk[k].Nx.length:Int))<;>rfl) (by unfold Qkf;rw [Yx];rfl)
  rw [l0,l1,l2,l3];simp only [Qq];rcases Qam (p:=fun s:ByteArray=>decide (20 < (s.size:Int))) (res:=fun _ _=>false) p.Nf 0 with ⟨k1,k2⟩ | ⟨j,x,k1,k2,k3⟩
  ·rw [k1];rcases Qam (p:=fun s:ByteArray=>decide (20 < (s.size:Int))) (res:=fun _ _=>false) p.Nb 0 with ⟨m1,m2⟩ | ⟨j,x,m1,m2,m3⟩
   ·rw [m1];rcases Qam (p:=fun s:Nu=>decide (20 < (s.Name.size:Int))) (res:=fun _ _=>false) p.Nc 0 with ⟨n1,n2⟩ | ⟨j,x,n1,n2,n3⟩
    ·rw [n1];rcases Qam (p:=fun r:Np=>decide (20 < (r.Name.size:Int))||(decide (10 < (r.Nf.length:Int))||decide (6 < (r.Nx.length:Int)))) (res:=fun _ _=>false) p.Nk 0 with ⟨o1,o2⟩ | ⟨j,x,o1,o2,o3⟩
     ·rw [o1];rw [List.any_eq_false] at k2 m2 n2 o2;refine .inl ⟨rfl,⟨h1,h2,h3,h4,fun s hs=>?_,fun s hs=>?_,fun s hs=>?_,fun r hr=>?_⟩,by omega⟩
      ·have:=k2 s hs;simp at this;omega
      ·have:=m2 s hs;simp at this;omega
      ·have:=n2 s hs;simp at this;omega
      ·have:=o2 r hr;simp at this;omega
     ·rw [o1];exact .inr rfl
    ·rw [n1];exact .inr rfl
   ·rw [m1];exact .inr rfl
  ·rw [k1];exact .inr rfl
theorem QGb (x:Ni):Qek x=some true/\StateS x\/Qek x=some false:=by
 unfold Qek;cases hb:(decide (6 < (x.Nc.length:Int))||decide (5 < (x.Nb.length:Int))) with
 | true=>exact .inr rfl
 | false =>
  rw [cond_false];simp only [Bool.or_eq_false_iff,decide_eq_false_iff_not] at hb;have l0:loop (Qkg x) 0=some (XY (fun t:Nl=>decide (10 < (t.Ng.length:Int))) (fun _ _=>false) 0 x.Nb):=Zw x.Nb _ _ (fun k hk=>by
   unfold Qkg;rw [Yu hk,cond_true,XV hk,Qq,Yw k (by omega)]) (by unfold Qkg;rw [Yx];rfl)
  rw [l0,Qq];rcases Qam (p:=fun t:Nl=>decide (10 < (t.Ng.length:Int))) (res:=fun _ _=>false) x.Nb 0 with ⟨k1,k2⟩ | ⟨j,y,k1,k2,k3⟩
  ·rw [k1];rw [List.any_eq_false] at k2;refine .inl ⟨rfl,by omega,by omega,fun t ht=>?_⟩;have:=k2 t ht;simp at this;omega
  ·rw [k1];exact .inr rfl
end Go.Gw

end
section
set_option maxRecDepth 4096
namespace Go.Gw
open Go
attribute [local irreducible] loop
/-! ### Which section leads to which -/
end Go.Gw

end
section
set_option maxRecDepth 4096
namespace Go.Gw
open Go
attribute [local irreducible] loop
end Go.Gw

end
