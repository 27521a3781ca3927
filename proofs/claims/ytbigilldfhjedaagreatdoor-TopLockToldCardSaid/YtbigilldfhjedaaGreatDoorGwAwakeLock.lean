/- Laws of the walk. Condition: each theorem says its own. -/
import Derived.Test.YtbigilldfhjedaaGreatDoorGwOnA
import Derived.Test.YtbigilldfhjedaaGreatDoorGwPl
set_option linter.unusedVariables false
set_option linter.unusedSimpArgs false
set_option linter.unusedSectionVars false
open List renaming getElem_mem→Ea,getElem?_eq_getElem→Eb,getElem_of_mem→Ec,mem_take_iff_getElem→Eg,length_drop→Ei,getElem_zip→Ej,mem_replicate→El,getElem_drop→Em,any_eq_false→En,drop_eq_getElem_cons→Ep,mem_singleton→Eq_,length_append→Er,length_zip→Eu,mem_of_mem_drop→Ev,Nodup→Ex,pairwise_iff_getElem→Ey,mem_or_eq_of_mem_set→Ez,getLast?_eq_getElem?→EA,getElem_append_right→EB,head?_eq_getElem?→EC,replicate→ED,mem_iff_getElem→EE,mem_of_mem_take→EF,any_cons→EG,getElem_zipIdx→EI
open Go.Gw.Runs renaming some→Ed
open Option renaming bind→Ee,some→EJ
open Bool renaming not_true→Ef,not_false→Eh,and_eq_true→Ek,not_eq_true'→Es,true_and→Et,or_false→EH
open Int renaming natCast_zero→Eo,toNat_natCast→Ew
section
set_option maxRecDepth 100000
namespace Go.Gw
open Go
end Go.Gw

end
section
set_option linter.unusedSectionVars false
namespace Go.Gw
section
variable {α β γ σ ρ:Type}
def Yg (p:α->Bool) (res:Nat->α->ρ):Nat->List α->ρ⊕Unit
 | _,[]=>.inr ()
 | k,x::xs=>if p x then .inl (res k x) else Yg p res (k+1) xs
theorem Zo {step:Int->Option (Int⊕(ρ⊕Unit))} (xs:List α) (p:α->Bool) (res:Nat->α->ρ)
  (hs:∀ k (hk:k < xs.length),step (k:Int)=(bif p xs[k] then some (.inr (.inl (res k xs[k]))) else some (.inl ((k+1:Nat):Int))))
  (he:step (xs.length:Int)=some (.inr (.inr ()))):loop step 0=some (Yg p res 0 xs):=by
 have key:∀ j k,j+k=xs.length->loop step (k:Int)=some (Yg p res k (xs.drop k)):=by
  intro j
  induction j with
  | zero =>
   intro k hk;obtain rfl:k=xs.length:=by omega
   rw [List.drop_length];exact Qcf he
  | succ j ih =>
   intro k hk;have hlt:k < xs.length:=by omega
   rw [Ep hlt];have:=hs k hlt;cases hp:p xs[k] with
   | true=>simp_all [Qcf,Yg,if_true]
   | false=>grind [Qce,Yg]
 have:=key xs.length 0 (by omega);trivial

def fld (f:Nat->γ->α->γ):Nat->γ->List α->γ
 | _,a,[]=>a
 | k,a,x::xs=>fld f (k+1) (f k a x) xs
theorem QOs {step:σ->Option (σ⊕β)} (xs:List α) (f:Nat->γ->α->γ) (S:γ->Nat->σ) (o:γ->β) (Inv:γ->Nat->Prop) (a0:γ) (h0:Inv a0 0)
  (hs:∀ k (hk:k < xs.length) a,Inv a k->step (S a k)=some (.inl (S (f k a xs[k]) (k+1)))/\Inv (f k a xs[k]) (k+1))
  (he:∀ a,Inv a xs.length->step (S a xs.length)=some (.inr (o a))):loop step (S a0 0)=some (o (fld f 0 a0 xs))/\Inv (fld f 0 a0 xs) xs.length:=by
 have key:∀ j k a,j+k=xs.length->Inv a k->loop step (S a k)=some (o (fld f k a (xs.drop k)))/\Inv (fld f k a (xs.drop k)) xs.length:=by
  intro j
  induction j with
  | zero =>
   intro k a hk hI;obtain rfl:k=xs.length:=by omega
   rw [List.drop_length];exact ⟨Qcf (he a hI),hI⟩
  | succ j ih =>
   intro k a hk hI;have hlt:k < xs.length:=by omega
   rw [Ep hlt];have:=hs k hlt a hI;rw [Qce this.1];exact ih (k+1) _ (by omega) this.2
 have:=key xs.length 0 a0 (by omega) h0;trivial

theorem Xz (k:Nat) (h:k < 4611686018427387904):w64 ((k:Int)+1)=((k+1:Nat):Int):=by grind [Yh]
theorem XN {k n:Nat} (h:k < n):decide ((k:Int) < (n:Int))=true:=by simp;omega
theorem XP (n:Nat):decide ((n:Int) < (n:Int))=false:=by simp
end
end Go.Gw

end
section
set_option maxRecDepth 4096
namespace Go.Gw
open Go
def Zw:List Int->Int
 | []=>0
 | x::xs=>if x=0 then Zw xs else x
theorem Zn (l:List Int) (hl:l.length < 1073741824):ZG l=some (Zw l):=by
  unfold ZG;rw [Zo l (fun x=>!decide (x=0)) (fun _ x=>x)]
  · have key : ∀ (l : List Int) k, (Xv (Yg (fun x => !decide (x = 0)) (fun _ x => x) k l) fun (_ : Unit) => some 0) = some (Zw l) := by
      intro l
      induction l with
      | nil=>intro k;rfl
      | cons x xs ih =>
        intro k;by_cases h:x=0
        · simp [Yg,Zw,h];exact ih _
        · simp [Yg,Zw,h,Xv]
    simpa using key l 0
  · intro k hk;unfold Qsf;rw [XN hk,Xq hk,Xz k (by omega)];rfl
  · unfold Qsf;rw [XP];rfl
theorem Yr (b:Bool) (e:Int):X4 b e=some (bif b then 0 else e):=by cases b<;>rfl
theorem Qwa (n lo hi:Int):JH n lo hi=some (decide (lo<=n)&&decide (n<=hi)):=rfl
theorem Qzi (n:Int):Qde n=some (decide (0<=n)&&decide (n<=6)):=rfl
def JC (t:Nh):Int:=Int.tmod (w64 (w64 (w64 (w64 (0+w64 (1 * w64 (t.e0+1)))+w64 (2 * w64 (t.e1+1)))+w64 (3 * w64 (t.e2+1)))+w64 (4 * w64 (t.e3+1)))) 251
theorem Qxr (t:Nh):Qic t=some (JC t):=by
 unfold Qic;rw [loop_iff.2 ⟨5,(by rfl:YF (Qzu t) 5 (0,0)=some _)⟩];rfl
end Go.Gw

end
section
set_option maxRecDepth 4096
namespace Go.Gw
open Go
def Qao (n:Int):Bool:=decide (0<=n)&&decide (n<=6)
def Xj (n:Int):Bool:=decide (0<=n)&&decide (n<=250)
def tel (e:Nj) (c:Int):Nh×Int:=bif Qao e.Kind then (bif (Xj e.A&&Xj e.B)&&Xj c then (Nh.mk e.Kind e.A e.B c (JC (Nh.mk e.Kind e.A e.B c 0)),0) else (Nh.mk 0 0 0 0 0,2)) else (Nh.mk 0 0 0 0 0,15)
theorem QXy (e:Nj) (c:Int):Qmb e c=some (tel e c):=by
 have k1:Qde e.Kind=some (Qao e.Kind):=rfl;have a1:Qab e.A=some (Xj e.A):=rfl;have b1:Qab e.B=some (Xj e.B):=rfl;have c1:Qab c=some (Xj c):=rfl;unfold Qmb tel;rw [k1,a1,b1,c1];cases Qao e.Kind<;>cases Xj e.A<;>cases Xj e.B<;>cases Xj c<;>simp [Yr,Zn,Zw,Qxr]
def X7 (t:Nh):Int:=bif Xj t.e0&&(Xj t.e1&&(Xj t.e2&&(Xj t.e3&&Xj t.e4))) then (bif decide (t.e4=JC t) then (bif Qao t.e0 then 0 else 15) else 21) else 2
theorem QHf (t:Nh):Qon [t.e0,t.e1,t.e2,t.e3,t.e4]=some (!(Xj t.e0&&(Xj t.e1&&(Xj t.e2&&(Xj t.e3&&Xj t.e4))))):=by
 have h:∀ n,Qsr n=some (!Xj n):=fun n=>rfl
 have key:loop (Qdi [t.e0,t.e1,t.e2,t.e3,t.e4]) 0=some (bif Xj t.e0 then bif Xj t.e1 then bif Xj t.e2 then bif Xj t.e3 then bif Xj t.e4 then .inr () else .inl 4 else .inl 3 else .inl 2 else .inl 1 else .inl 0):=by
  refine loop_iff.2 ⟨6,?_⟩;have s0:Qdi [t.e0,t.e1,t.e2,t.e3,t.e4] 0=bif !Xj t.e0 then some (.inr (.inl 0)) else some (.inl 1):=rfl
  have s1:Qdi [t.e0,t.e1,t.e2,t.e3,t.e4] 1=bif !Xj t.e1 then some (.inr (.inl 1)) else some (.inl 2):=rfl
  have s2:Qdi [t.e0,t.e1,t.e2,t.e3,t.e4] 2=bif !Xj t.e2 then some (.inr (.inl 2)) else some (.inl 3):=rfl
  have s3:Qdi [t.e0,t.e1,t.e2,t.e3,t.e4] 3=bif !Xj t.e3 then some (.inr (.inl 3)) else some (.inl 4):=rfl
  have s4:Qdi [t.e0,t.e1,t.e2,t.e3,t.e4] 4=bif !Xj t.e4 then some (.inr (.inl 4)) else some (.inl 5):=rfl
  have s5:Qdi [t.e0,t.e1,t.e2,t.e3,t.e4] 5=some (.inr (.inr ())):=rfl;cases h0:Xj t.e0<;>cases h1:Xj t.e1<;>cases h2:Xj t.e2<;>cases h3:Xj t.e3<;>cases h4:Xj t.e4<;>simp [YF,s0,s1,s2,s3,s4,s5,h0,h1,h2,h3,h4]
 unfold Qon Qur;rw [key];cases Xj t.e0<;>cases Xj t.e1<;>cases Xj t.e2<;>cases Xj t.e3<;>cases Xj t.e4<;>rfl
theorem QEp (t:Nh):Qfv t=some (X7 t):=by
 have k1:Qde t.e0=some (Qao t.e0):=rfl;unfold Qfv X7;rw [QHf,Qxr,k1];by_cases hc:t.e4=JC t
 all_goals cases (Xj t.e0&&(Xj t.e1&&(Xj t.e2&&(Xj t.e3&&Xj t.e4))))<;>cases Qao t.e0<;>simp [Yr,Zn,Zw,hc]
def evt (t:Nh):Nj×Int×Int:=if X7 t=0 then (Nj.mk t.e0 t.e1 t.e2,t.e3,0) else (Nj.mk 0 0 0,0,X7 t)
theorem QJg (t:Nh):Qlv t=some (evt t):=by
 unfold Qlv evt;rw [QEp,Qr];by_cases h:X7 t=0
 ·simp [h]
 ·simp [h]
end Go.Gw

end
section
set_option maxRecDepth 4096
namespace Go.Gw
open Go
attribute [local irreducible] loop
def JR (a b c:Nh):Option Nh:=if X7 a=0/\(a=b\/a=c) then some a else if X7 b=0/\(b=a\/b=c) then some b else if X7 c=0/\(c=a\/c=b) then some c else none
theorem QLo:Quj 2=some []:=by rfl
theorem QHq (x y:List Nh) (b c:Nh) (h:x++y=[b,c]):Qjm [x,y]=some [b,c]:=by
 have hs:YF (QDg [x,y]) 3 (0,0)=some 2:=by
  match x,y,h with
  | [],[b',c'],h=>rfl
  | [b'],[c'],h=>rfl
  | [b',c'],[],h=>rfl
 have h2:YF (QDh [x,y]) 3 ([],0)=some [b,c]:=by
  match x,y,h with
  | [],[b',c'],h=>cases h;rfl
  | [b'],[c'],h=>cases h;rfl
  | [b',c'],[],h=>cases h;rfl
 unfold Qjm;rw [loop_iff.2 ⟨3,hs⟩,Qr,QLo,Qr,loop_iff.2 ⟨3,h2⟩];rfl
theorem QHs (b c v:Nh):Qjn [b,c] v=some (decide (v=b)||decide (v=c)):=by
 have h:loop (Qjo [b,c] v) 0=some (bif decide (v=b) then .inl 0 else bif decide (v=c) then .inl 1 else .inr ()):=by
  refine loop_iff.2 ⟨3,?_⟩;have s0:Qjo [b,c] v 0=bif decide (v=b) then some (.inr (.inl 0)) else some (.inl 1):=rfl
  have s1:Qjo [b,c] v 1=bif decide (v=c) then some (.inr (.inl 1)) else some (.inl 2):=rfl
  have s2:Qjo [b,c] v 2=some (.inr (.inr ())):=rfl;generalize decide (v=b)=d1 at s0 ⊢;generalize decide (v=c)=d2 at s1 ⊢;cases d1<;>cases d2<;>simp [YF,s0,s1,s2]
 unfold Qjn Qus;rw [h];cases decide (v=b)<;>cases decide (v=c)<;>rfl
noncomputable def vb (el:Nh) (l:List (List Nh)) (i:Int):Option (Int⊕((Nh×Int)⊕Unit)):=Ee (Qjm l) fun r709=>Ee (Qfv el) fun r720=>Ee (bif (decide (r720=0)) then Qjn r709 el else some default) fun r728=>bif ((decide (r720=0))&&r728) then some (.inr (.inl (el,0))) else some (.inl (w64 (i+1)))
theorem Qvw {x y:List Nh} {b c el:Nh} {i:Int} (h:x++y=[b,c]):vb el [x,y] i=bif decide (X7 el=0)&&(decide (el=b)||decide (el=c)) then some (.inr (.inl (el,0))) else some (.inl (w64 (i+1))):=by
 unfold vb;rw [QHq x y b c h,Qr,QEp,Qr,QHs];cases decide (X7 el=0)<;>rfl
def Qvy (t:Nx):Nh×Int:=match JR t.e0 t.e1 t.e2 with
 | some x=>(x,0)
 | none=>(Nh.mk 0 0 0 0 0,12)
theorem QYv (t:Nx):Qmc t=some (Qvy t):=by
 have s0:Qfn t 0=vb t.e0 [[],[t.e1,t.e2]] 0:=rfl;have s1:Qfn t 1=vb t.e1 [[t.e0],[t.e2]] 1:=rfl;have s2:Qfn t 2=vb t.e2 [[t.e0,t.e1],[]] 2:=rfl;have s3:Qfn t 3=some (.inr (.inr ())):=rfl;rw [Qvw (b:=t.e1) (c:=t.e2) rfl] at s0;rw [Qvw (b:=t.e0) (c:=t.e2) rfl] at s1;rw [Qvw (b:=t.e0) (c:=t.e1) rfl] at s2;unfold Qmc Qvy JR;have key:loop (Qfn t) 0=some (bif decide (X7 t.e0=0)&&(decide (t.e0=t.e1)||decide (t.e0=t.e2)) then .inl (t.e0,0) else bif decide (X7 t.e1=0)&&(decide (t.e1=t.e0)||decide (t.e1=t.e2)) then .inl (t.e1,0) else bif decide (X7 t.e2=0)&&(decide (t.e2=t.e0)||decide (t.e2=t.e1)) then .inl (t.e2,0) else .inr ()):=by
  refine loop_iff.2 ⟨4,?_⟩;generalize (decide (X7 t.e0=0)&&(decide (t.e0=t.e1)||decide (t.e0=t.e2)))=d0 at s0 ⊢;generalize (decide (X7 t.e1=0)&&(decide (t.e1=t.e0)||decide (t.e1=t.e2)))=d1 at s1 ⊢;generalize (decide (X7 t.e2=0)&&(decide (t.e2=t.e0)||decide (t.e2=t.e1)))=d2 at s2 ⊢;have w1:w64 (0+1)=1:=rfl;have w2:w64 (1+1)=2:=rfl;have w3:w64 (2+1)=3:=rfl;rw [w1] at s0;rw [w2] at s1;rw [w3] at s2;cases d0<;>cases d1<;>cases d2<;>simp [YF,s0,s1,s2,s3]
 rw [key];have e0:(decide (X7 t.e0=0)&&(decide (t.e0=t.e1)||decide (t.e0=t.e2)))=decide (X7 t.e0=0/\(t.e0=t.e1\/t.e0=t.e2)):=by simp
 have e1:(decide (X7 t.e1=0)&&(decide (t.e1=t.e0)||decide (t.e1=t.e2)))=decide (X7 t.e1=0/\(t.e1=t.e0\/t.e1=t.e2)):=by simp
 have e2:(decide (X7 t.e2=0)&&(decide (t.e2=t.e0)||decide (t.e2=t.e1)))=decide (X7 t.e2=0/\(t.e2=t.e0\/t.e2=t.e1)):=by simp
 rw [e0,e1,e2];by_cases h0:X7 t.e0=0/\(t.e0=t.e1\/t.e0=t.e2)
 ·rw [decide_eq_true h0,if_pos h0];rfl
 rw [decide_eq_false h0,if_neg h0];by_cases h1:X7 t.e1=0/\(t.e1=t.e0\/t.e1=t.e2)
 ·rw [decide_eq_true h1,if_pos h1];rfl
 rw [decide_eq_false h1,if_neg h1];by_cases h2:X7 t.e2=0/\(t.e2=t.e0\/t.e2=t.e1)
 ·rw [decide_eq_true h2,if_pos h2];rfl
 rw [decide_eq_false h2,if_neg h2];rfl
end Go.Gw

end
section
set_option maxRecDepth 4096
namespace Go.Gw
open Go
attribute [local irreducible] loop
end Go.Gw

end
section
set_option maxRecDepth 4096
namespace Go.Gw
open Go
attribute [local irreducible] loop
theorem Qgi {α:Type} (p:α->Bool):∀ (l:List α) (k:Nat),(Xv (β:=Int) (Yg p (fun k _=>(k:Int)) k l) fun (_:Unit)=>some (-1))=some (match Yg p (fun k _=>(k:Int)) k l with | .inl i=>i | .inr _=>-1)
 | l,k=>by cases Yg p (fun k _=>(k:Int)) k l<;>rfl
theorem Qjr {α:Type} (p:α->Bool):∀ (l:List α) (k:Nat),decide (0<=(match Yg p (fun k _=>(k:Int)) k l with | .inl i=>i | .inr _=>(-1:Int)))=l.any p
 | [],k=>by simp [Yg]
 | x::xs,k=>by
  by_cases h:p x=true
  ·simp [Yg,h]
  ·simp only [Yg,h,EG];have:=Qjr p xs (k+1);simpa [h] using this
theorem J3 {α ρ:Type} {p:α->Bool} {res:Nat->α->ρ}:∀ (l:List α) (k:Nat),(Yg p res k l=.inr ()/\l.any p=false)\/∃ j x,Yg p res k l=.inl (res j x)/\p x=true/\l.any p=true
 | [],k=>.inl ⟨rfl,rfl⟩
 | x::xs,k=>by
  by_cases h:p x=true
  ·exact .inr ⟨k,x,by simp [Yg,h],h,by simp [h]⟩
  ·rcases J3 xs (k+1) (p:=p) (res:=res) with ⟨h1,h2⟩ | ⟨j,y,h1,h2,h3⟩
   ·exact .inl ⟨by simp [Yg,h,h1],by simp [h,h2]⟩
   ·exact .inr ⟨j,y,by simp [Yg,h,h1],h2,by simp [h3]⟩
def XE (f:Nat->Int) (n:Nat):Option Nat:=(List.range n).find? fun i=>decide (f i≠0)
theorem Qld (f:Nat->Int) (n:Nat):(XE f n=none/\∀ j,j < n->f j=0)\/∃ i,XE f n=some i/\i < n/\f i≠0/\∀ j,j < i->f j=0:=by
 cases h:XE f n with
 | none =>
  refine .inl ⟨rfl,fun j hj=>?_⟩;have:=List.find?_eq_none.1 h j (List.mem_range.2 hj);simpa using this
 | some i =>
  right;obtain ⟨h1,h2,h3⟩:=List.find?_range_eq_some.1 h;exact ⟨i,rfl,List.mem_range.1 h2,by simpa using h1,fun j hj=>by have:=h3 j hj;simpa using this⟩
theorem Qbk {σ ρ μ:Type} {step:σ->Option (σ⊕(ρ⊕μ))} (S:Nat->σ) (n:Nat) (f:Nat->Int) (res:Nat->Int->ρ) (o:μ)
  (hs:∀ k,k < n->(∀ j,j < k->f j=0)->step (S k)=if f k=0 then some (.inl (S (k+1))) else some (.inr (.inl (res k (f k))))) (he:(∀ j,j < n->f j=0)->step (S n)=some (.inr (.inr o))) :
  loop step (S 0)=some (match XE f n with | some i=>.inl (res i (f i)) | none=>.inr o):=by
 rcases Qld f n with ⟨h1,h2⟩ | ⟨i,h1,h2,h3,h4⟩
 ·rw [h1];exact Qap S n (fun k hk=>by rw [hs k hk fun j hj=>h2 j (by omega),if_pos (h2 k hk)]) (he h2)
 ·rw [h1];exact Qap S i (fun k hk=>by rw [hs k (by omega) fun j hj=>h4 j (by omega),if_pos (h4 k hk)]) (by rw [hs i h2 h4,if_neg h3])
/-! ### Names -/
def Qhd (q:Int×Nat):Bool:=(!(((decide (97<=q.1))&&(decide (q.1<=122)))||((decide (65<=q.1))&&(decide (q.1<=90)))))&&((decide ((q.2:Int)=0))||((!decide (q.1=45))&&((decide (q.1 < 48))||(decide (57 < q.1)))))
def bi (s:ByteArray):List Int:=bl s
theorem Qko (s:ByteArray):(bi s).length=s.size:=Zu s
theorem Qyx {s:ByteArray} {k:Nat} (h:k < (bi s).length):idx (α:=Int) (bl s) (k:Int)=some (bi s)[k]:=Xq (xs:=bi s) h
def Qaq (s:ByteArray):Bool:=decide (1<=s.size)&&(decide (s.size<=12)&&!((bi s).zipIdx.any Qhd))
theorem QDf (s:ByteArray):s=ByteArray.mk #[]↔s.size=0:=by
 constructor
 ·intro h;subst h;rfl
 ·intro h;cases s with
  | mk d =>
   congr 1;exact Array.eq_empty_of_size_eq_zero h
theorem Qpz (s:ByteArray):Qfb s=some (Qaq s):=by
  unfold Qfb Qaq;have hlen:(bi s).zipIdx.length=s.size:=by rw [List.length_zipIdx,Qko]
  by_cases h:1<=s.size/\s.size<=12
  · have : (decide ((s.size : Int) < 1) || decide (12 < (s.size : Int))) = false := by
      rw [decide_eq_false (by omega),decide_eq_false (by omega)];rfl
    rw [this,cond_false,Zo (bi s).zipIdx Qhd (fun _ _=>false),Qr]
    · rcases J3 (p:=Qhd) (res:=fun _ _=>false) (bi s).zipIdx 0 with ⟨k1,k2⟩ | ⟨j,x,k1,k2,k3⟩
      · rw [k1,k2];simp [h,Xv]
      · rw [k1,k3];simp [Xv]
    · intro k hk;rw [hlen] at hk;unfold Qqe;rw [XN hk,cond_true,Qyx (show k < (bi s).length by rw [Qko];exact hk),Qr,Xz k (by omega)];simp only [EI,Nat.zero_add];rfl
    · rw [hlen];unfold Qqe;rw [XP];rfl
  · have : (decide ((s.size : Int) < 1) || decide (12 < (s.size : Int))) = true := by
      by_cases h1:s.size < 1
      · rw [decide_eq_true (by omega)];rfl
      · rw [decide_eq_true (p:=12 < (s.size:Int)) (by omega)];simp
    rw [this,cond_true];congr 1;by_cases h1:1<=s.size
    · rw [decide_eq_false (p:=s.size<=12) (by omega)];simp
    · rw [decide_eq_false h1];rfl
theorem Qrs (s:ByteArray) (hs:s.size<=1000):Qfp s=some (Qaq s):=by
 unfold Qfp Qaq;have hlen:(bi s).zipIdx.length=s.size:=by rw [List.length_zipIdx,Qko]
 have ht:tob s=some (bl s):=by unfold tob;rw [if_pos (by omega)]
 rw [ht,Qr,Zo (bi s).zipIdx Qhd (fun _ _=>false),Qr]
 ·rcases J3 (p:=Qhd) (res:=fun _ _=>false) (bi s).zipIdx 0 with ⟨k1,k2⟩ | ⟨j,x,k1,k2,k3⟩
  ·rw [k1,k2];simp only [Xv,Eh,Bool.and_true,EJ.injEq];by_cases h0:s.size=0
   ·rw [decide_eq_true ((QDf s).2 h0),decide_eq_false (show ¬ 1<=s.size by omega)];rfl
   ·rw [decide_eq_false (fun e=>h0 ((QDf s).1 e)),decide_eq_true (show 1<=s.size by omega)];simp only [Eh,Et];by_cases h1:s.size<=12
    ·rw [decide_eq_true h1,decide_eq_true (by omega)]
    ·rw [decide_eq_false h1,decide_eq_false (by omega)]
  ·rw [k1,k3];simp [Xv]
 ·intro k hk;rw [hlen] at hk;have hk2:k < (bl s).length:=by rw [Zu];exact hk
  unfold Qsh;rw [XN hk2,cond_true,Qyx (show k < (bi s).length by rw [Qko];exact hk),Qr,Xz k (by omega)];simp only [EI,Nat.zero_add];rfl
 ·rw [hlen,show (s.size:Int)=((bl s).length:Int) by rw [Zu]];unfold Qsh;rw [XP];rfl
theorem Qqk (n lo hi:Int):Qcw n lo hi=some (decide (lo<=n)&&decide (n<=hi)):=rfl
theorem Qyr (a b:Int):Zw [a,b]=if a≠0 then a else b:=by
 unfold Zw Zw Zw;by_cases h:a=0<;>by_cases h2:b=0<;>simp [h,h2]
theorem Qfl (a b c:Int):Zw [a,b,c]=if a≠0 then a else if b≠0 then b else c:=by
 unfold Zw Zw Zw Zw;by_cases h:a=0<;>by_cases h2:b=0<;>by_cases h3:c=0<;>simp [h,h2,h3]
theorem Qra {α:Type} [DecidableEq α]:∀ (a b:List α) (hl:a.length=b.length) (k:Nat),(Xv (Yg (fun (x:α×α)=>!decide (x.1=x.2)) (fun _ _=>false) k (a.zip b)) fun (_:Unit)=>some true)=some (decide (a=b))
 | [],[],_,k=>by simp [Yg,Xv]
 | [],_::_,hl,_=>by simp at hl
 | _::_,[],hl,_=>by simp at hl
 | x::a,y::b,hl,k=>by
  by_cases hxy:x=y
  ·subst hxy;have:=Qra a b (by simpa using hl) (k+1);simp only [List.zip_cons_cons,Yg];simpa using this
  ·simp [Yg,hxy,Xv]
theorem Qpk {α:Type} {a b:List α} (hl:a.length=b.length):(a.zip b).length=a.length:=by simp [hl]
theorem Jt {α:Type} (l:List α) (f:α->Int) (k:Nat) (hk:k < l.length):(l[k]?.map f).getD 0=f l[k]:=by rw [Eb hk];rfl
theorem Qgm {α β:Type} (l:List α) (f:α->β) (k:Nat) (hk:k < l.length):(l.take k).map f++[f l[k]]=(l.take (k+1)).map f:=by
 rw [List.take_add_one,Eb hk,List.map_append];rfl
theorem Qpl {α β:Type} {a:List α} {b:List β} (hl:a.length=b.length):(a.zip b).length=a.length:=by simp [hl]
theorem Qdw {α:Type} {xs:List α} {k:Nat} (h:k<=xs.length):cut xs 0 (k:Int)=some (xs.take k):=by
 unfold cut;rw [if_pos (by omega),Ew];rfl
theorem Qwv {α:Type} [DecidableEq α] (l:List α) (v:α):(l.any fun x=>decide (v=x))=decide (v∈l):=by
 rw [Bool.eq_iff_iff];simp
theorem Qww {α:Type} [DecidableEq α] (l:List α) (v:α):(l.any fun x=>decide (x=v))=decide (v∈l):=by
 rw [Bool.eq_iff_iff];simp
def Qbi {α:Type} (p:α->Bool) (l:List α):Int:=match Yg p (fun k _=>(k:Int)) 0 l with | .inl i=>i | .inr _=>(-1:Int)
theorem Qrp {α:Type} (p:α->Bool) (l:List α):decide (0<=Qbi p l)=l.any p:=Qjr p l 0
theorem Qzj (l:List Int) (v:Int) (hl:l.length < 1000000):Qjp l v=some (Qbi (fun x=>decide (v=x)) l):=by
 unfold Qjp Qbi;rw [Zo l (fun x=>decide (v=x)) (fun k _=>(k:Int)),Qr,Qgi]
 ·intro k hk;unfold Qut;rw [XN hk,Xq hk,Xz k (by omega)];rfl
 ·unfold Qut;rw [XP];rfl
theorem Qfg (l:List Int) (v:Int) (hl:l.length < 1000000):Qcm l v=some (decide (v∈l)):=by
 unfold Qcm;rw [Qzj l v hl,Qr,Qrp,Qwv]
end Go.Gw

end
section
set_option maxRecDepth 4096
namespace Go.Gw
open Go
attribute [local irreducible] loop
def ZH (s:ByteArray) (others:List ByteArray):Int:=bif Qaq s then (bif Zf others s then 5 else 0) else 4
def Zg (l:List ByteArray) (k:Nat):Int:=(l[k]?.map fun s=>ZH s (l.take k)).getD 0
def YB (p:Nf) (n:Int):Bool:=decide (0<=n)&&decide (n<=(p.Nc.length:Int) - 1)
def swX (p:Nf) (k:Nat) (s:Ns):Int:=bif YB p s.Nq then (bif (p.Na.take k).any (fun o=>decide (o.Nq=s.Nq)) then 26 else 0) else 6
def swE (p:Nf) (k:Nat) (s:Ns):Int:=if ZH s.Name ((p.Na.take k).map (·.Name))=0 then swX p k s else ZH s.Name ((p.Na.take k).map (·.Name))
def ZM (p:Nf) (k:Nat):Int:=(p.Na[k]?.map (swE p k)).getD 0
def rsE (p:Nf) (r:Nr) (k:Nat) (s:Int):Int:=bif YB p s then (bif decide (s∈r.Nc.take k) then 26 else 0) else 6
def JL (p:Nf) (r:Nr) (k:Nat):Int:=(r.Nc[k]?.map (rsE p r k)).getD 0
def Qar (r:Nr) (q:Int×Ns):Bool:=bif decide (q.2.Nq∈r.Nc) then !(decide (q.1=0)||decide (q.1=1)) else !decide (q.1=-1)
def rtX (p:Nf) (r:Nr):Int :=
 if r.Nc.length < 2 then 10 else if p.Nc.length < r.Nc.length then 8 else
 match XE (JL p r) r.Nc.length with
 | some i=>JL p r i
 | none=>if r.Nu.length=p.Na.length then (bif (r.Nu.zip p.Na).any (Qar r) then 2 else 0) else 10
def rtE (p:Nf) (k:Nat) (r:Nr):Int:=if ZH r.Name ((p.Nk.take k).map (·.Name))=0 then rtX p r else ZH r.Name ((p.Nk.take k).map (·.Name))
def ZJ (p:Nf) (k:Nat):Int:=(p.Nk[k]?.map (rtE p k)).getD 0
def Y0 (p:Nf):Np×Int :=
 if p.Nc.length=0\/p.Nb.length=0 then (Np.mk 0 0,10) else if 8 < p.Nc.length\/3 < p.Nb.length\/4 < p.Na.length\/10 < p.Nk.length then (Np.mk 0 0,8) else
 match XE (Zg p.Nc) p.Nc.length with
 | some i=>(Np.mk 1 i,Zg p.Nc i)
 | none=>match XE (Zg p.Nb) p.Nb.length with
  | some i=>(Np.mk 2 i,Zg p.Nb i)
  | none=>match XE (ZM p) p.Na.length with
   | some i=>(Np.mk 3 i,ZM p i)
   | none=>match XE (ZJ p) p.Nk.length with
    | some i=>(Np.mk 4 i,ZJ p i)
    | none=>(Np.mk 0 0,0)
structure PlantS (p:Nf):Prop where
 se:p.Nc.length < 1000
 tr:p.Nb.length < 1000
 sw:p.Na.length < 1000
 ro:p.Nk.length < 1000
 sn:∀ s∈p.Nc,s.size<=1000
 tn:∀ s∈p.Nb,s.size<=1000
 wn:∀ s∈p.Na,s.Name.size<=1000
 rn:∀ r∈p.Nk,r.Name.size<=1000/\r.Nc.length < 1000/\r.Nu.length < 1000
theorem Qrm {α:Type} (l:List α) (f:α->ByteArray) (k:Nat) (hk:k < l.length) (h:Zf ((l.take k).map f) (f l[k])=false):Jb ((l.take k).map f) (f l[k])=(l.take (k+1)).map f:=by
 unfold Jb;rw [h,if_neg (by simp),Qgm l f k hk]
theorem Qsw (s:ByteArray) (others:List ByteArray):Zw [bif Qaq s then 0 else 4,bif !(Zf others s) then 0 else 5]=ZH s others:=by
 unfold ZH;cases Qaq s<;>cases Zf others s<;>rfl
theorem Qsx {s:ByteArray} {others:List ByteArray} (h:ZH s others=0):Zf others s=false:=by
 unfold ZH at h;cases h1:Zf others s with
 | false=>rfl
 | true=>rw [h1] at h;cases h2:Qaq s<;>rw [h2] at h<;>cases h
theorem QHx {n m:Int} (h:n≠m):decide (n=m)=false:=decide_eq_false h
theorem QAn (l:List ByteArray) (mark:Int) (hl:l.length < 1000) (hn:∀ s∈l,s.size<=1000):Qim mark l=some (match XE (Zg l) l.length with | some i=>(Np.mk mark i,Zg l i) | none=>(Np.mk 0 0,0)):=by
 unfold Qim;have key:loop (Qil l mark) (0,[])=some (match XE (Zg l) l.length with | some i=>.inl (Np.mk mark i,Zg l i) | none=>.inr ()):=by
  refine Qbk (step:=Qil l mark) (fun k=>((k:Int),(l.take k).map id)) l.length (Zg l) (fun i e=>(Np.mk mark i,e)) () (fun k hk _=>?_) (fun _=>?_)
  ·have hs:Zg l k=ZH l[k] (l.take k):=Jt _ _ _ hk;have hi:=fun h=>Qrm l id k hk h
   simp only [List.map_id,id_eq] at hi ⊢;rw [hs];unfold Qil;simp only [XN hk,cond_true,Xq hk,Qr];rw [show Qsj l[k]=some l[k] from rfl,Qr,Qrs _ (hn _ (Ea hk)),Qr];simp only [Yr,Qr];rw [Zn _ (by simp),Qr,Qsw];by_cases h:ZH l[k] (l.take k)=0
   ·rw [if_pos h,h,hi (Qsx h),Xz k (by omega)];rfl
   ·rw [if_neg h,QHx h];rfl
  ·unfold Qil;simp only [XP];rfl
 rw [key,Qr];cases XE (Zg l) l.length<;>rfl
theorem QHg (l:List Ns) (s:Ns) (hl:l.length < 1000):Qol l s=some (l.any fun o=>decide (o.Nq=s.Nq)):=by
 unfold Qol Qul;rw [Zo l (fun o=>decide (o.Nq=s.Nq)) (fun k _=>(k:Int)),Qr,Qgi,Qr,Qjr]
 ·intro k hk;unfold Quk;rw [XN hk,Xq hk,Xz k (by omega)];rfl
 ·unfold Quk;rw [XP];rfl
theorem QDa (p:Nf) (hp:p.Nc.length < 1000) (n:Int):JH n 0 (w64 ((p.Nc.length:Int) - 1))=some (YB p n):=by
 rw [Qwa,Yh (by omega)];rfl
theorem QWy {p:Nf} (h:PlantS p) (k:Nat) (hk:k < p.Na.length):Qms p k=some (swX p k p.Na[k]):=by
 have h1:=h.sw;unfold Qms swX;rw [Xq hk,Qr,Qdw (by omega),Qr,QHg _ _ (by simp;omega),Qr,QDa p h.se,Qr,Yr,Qr,Yr,Qr,Zn _ (by simp),Qr];cases YB p p.Na[k].Nq<;>cases (p.Na.take k).any (fun o=>decide (o.Nq=p.Na[k].Nq))<;>rfl
theorem QXa {p:Nf} (h:PlantS p):Qmm 3 p.Na p=some (match XE (ZM p) p.Na.length with | some i=>(Np.mk 3 i,ZM p i) | none=>(Np.mk 0 0,0)):=by
 have hl:=h.sw;unfold Qmm;have key:loop (Qik p p.Na 3) (0,[])=some (match XE (ZM p) p.Na.length with | some i=>.inl (Np.mk 3 i,ZM p i) | none=>.inr ()):=by
  refine Qbk (step:=Qik p p.Na 3) (fun k=>((k:Int),(p.Na.take k).map (·.Name))) p.Na.length (ZM p) (fun i e=>(Np.mk 3 i,e)) () (fun k hk _=>?_) (fun _=>?_)
  ·have hs:ZM p k=swE p k p.Na[k]:=Jt _ _ _ hk;have hi:=fun h=>Qrm p.Na (·.Name) k hk h
   rw [hs];unfold Qik swE;simp only [XN hk,cond_true,Xq hk,Qr];rw [show Qrw p.Na[k]=some p.Na[k].Name from rfl,Qr,Qrs _ (h.wn _ (Ea hk)),Qr];simp only [Yr,Qr];rw [Zn _ (by simp),Qr,Qsw,show Qls (k:Int) p=some (swX p k p.Na[k]) by unfold Qls;rw [QWy h k hk];rfl];by_cases h1:ZH p.Na[k].Name ((p.Na.take k).map (·.Name))=0
   ·simp only [h1,hi (Qsx h1),if_true,decide_true,Et,cond_true,Qr,Xz k (show k < 4611686018427387904 by omega)];by_cases h2:swX p k p.Na[k]=0
    ·simp [h2]
    ·simp [h2]
   ·simp only [h1,if_false,decide_false,Bool.false_and,cond_false,Qr,Eh,cond_true]
  ·unfold Qik;simp only [XP];rfl
 rw [key,Qr];cases XE (ZM p) p.Na.length<;>rfl
theorem QUf {p:Nf} (h:PlantS p) (r:Nr) (hr:r.Nc.length < 1000):loop (Qmp r p) 0=some (match XE (JL p r) r.Nc.length with | some i=>.inl (JL p r i) | none=>.inr ()) :=
 Qbk (fun k=>(k:Int)) r.Nc.length (JL p r) (fun _ e=>e) () (fun k hk _=>by
  have hs:JL p r k=rsE p r k r.Nc[k]:=Jt _ _ _ hk;rw [hs];unfold Qmp rsE;rw [XN hk,cond_true,Xq hk,Qr,Qdw (by omega),Qr,QDa p h.se,Qr,Yr,Qr,Qfg _ _ (by simp;omega),Qr,Yr,Qr,Zn _ (by simp),Qr,Xz k (by omega)];cases YB p r.Nc[k]<;>cases decide (r.Nc[k]∈r.Nc.take k)<;>rfl) (fun _=>by
  unfold Qmp;rw [XP];rfl)
theorem QUe {p:Nf} (r:Nr) (hr:r.Nc.length < 1000) (hn:r.Nu.length < 1000) (he:r.Nu.length=p.Na.length):loop (Qmq r p) 0=some (Yg (Qar r) (fun _ _=>(2:Int)) 0 (r.Nu.zip p.Na)) :=
 Zo (r.Nu.zip p.Na) _ _ (fun k hk=>by
  rw [Qpl he] at hk;unfold Qmq;rw [XN hk,cond_true,Xq hk,Qr,Xq (show k < p.Na.length by omega),Qr,Qfg _ _ (by omega),Qr,Xz k (by omega)];simp only [Ej,Qar];rw [show Qfq r.Nu[k]=some (decide (r.Nu[k]=0)||decide (r.Nu[k]=1)) from rfl];cases decide (p.Na[k].Nq∈r.Nc)<;>rfl) (by
  rw [Qpl he];unfold Qmq;rw [XP];rfl)
theorem QUi {p:Nf} (h:PlantS p) (k:Nat) (hk:k < p.Nk.length):Qmr p k=some (rtX p p.Nk[k]):=by
 obtain ⟨_,hr,hn⟩:=h.rn _ (Ea hk);have h1:=h.se;have h2:=h.sw;unfold Qmr rtX;rw [Xq hk,Qr,Yr,Qr,Yr,Qr,Zn _ (by simp),Qr];generalize p.Nk[k]=r at hr hn ⊢;by_cases h3:r.Nc.length < 2
 ·rw [if_pos h3,decide_eq_false (show ¬ (2<=(r.Nc.length:Int)) by omega)];rfl
 rw [if_neg h3,decide_eq_true (show 2<=(r.Nc.length:Int) by omega)];by_cases h4:p.Nc.length < r.Nc.length
 ·rw [if_pos h4,decide_eq_false (show ¬ ((r.Nc.length:Int)<=p.Nc.length) by omega)];rfl
 rw [if_neg h4,decide_eq_true (show (r.Nc.length:Int)<=p.Nc.length by omega),QUf h r hr];simp only [Zw,cond_true,if_true,decide_true,Ef,cond_false,Qr];cases XE (JL p r) r.Nc.length with
 | some i=>rfl
 | none =>
  simp only [Xv];by_cases h5:r.Nu.length=p.Na.length
  ·rw [if_pos h5,decide_eq_true (by omega),Ef,cond_false,QUe r hr hn h5,Qr];rcases J3 (p:=Qar r) (res:=fun _ _=>(2:Int)) (r.Nu.zip p.Na) 0 with ⟨k1,k2⟩ | ⟨j,x,k1,k2,k3⟩
   ·rw [k1,k2];rfl
   ·rw [k1,k3];rfl
  ·rw [if_neg h5,decide_eq_false (by omega)];rfl
theorem QUu {p:Nf} (h:PlantS p):Qml 4 p.Nk p=some (match XE (ZJ p) p.Nk.length with | some i=>(Np.mk 4 i,ZJ p i) | none=>(Np.mk 0 0,0)):=by
 have hl:=h.ro;unfold Qml;have key:loop (Qij p p.Nk 4) (0,[])=some (match XE (ZJ p) p.Nk.length with | some i=>.inl (Np.mk 4 i,ZJ p i) | none=>.inr ()):=by
  refine Qbk (step:=Qij p p.Nk 4) (fun k=>((k:Int),(p.Nk.take k).map (·.Name))) p.Nk.length (ZJ p) (fun i e=>(Np.mk 4 i,e)) () (fun k hk _=>?_) (fun _=>?_)
  ·have hs:ZJ p k=rtE p k p.Nk[k]:=Jt _ _ _ hk;have hi:=fun h=>Qrm p.Nk (·.Name) k hk h
   rw [hs];unfold Qij rtE;simp only [XN hk,cond_true,Xq hk,Qr];rw [show Qry p.Nk[k]=some p.Nk[k].Name from rfl,Qr,Qrs _ (h.rn _ (Ea hk)).1,Qr];simp only [Yr,Qr];rw [Zn _ (by simp),Qr,Qsw,show Qlt (k:Int) p=some (rtX p p.Nk[k]) by unfold Qlt;rw [QUi h k hk];rfl];by_cases h1:ZH p.Nk[k].Name ((p.Nk.take k).map (·.Name))=0
   ·simp only [h1,hi (Qsx h1),if_true,decide_true,Et,cond_true,Qr,Xz k (show k < 4611686018427387904 by omega)];by_cases h2:rtX p p.Nk[k]=0
    ·simp [h2]
    ·simp [h2]
   ·simp only [h1,if_false,decide_false,Bool.false_and,cond_false,Qr,Eh,cond_true]
  ·unfold Qij;simp only [XP];rfl
 rw [key,Qr];cases XE (ZJ p) p.Nk.length<;>rfl
theorem QHi {p:Nf} (h:PlantS p):Qlu p=some (Y0 p):=by
  unfold Qlu Y0;rw [Yr,Qr,Yr,Qr,Zn _ (by simp),Qr];by_cases h1:p.Nc.length=0\/p.Nb.length=0
  · rw [if_pos h1, show (decide (0 < (p.Nc.length : Int)) && decide (0 < (p.Nb.length : Int))) = false by
      rcases h1 with h1 | h1
      · rw [decide_eq_false (show ¬ (0 < (p.Nc.length:Int)) by omega)];rfl
      · rw [decide_eq_false (show ¬ (0 < (p.Nb.length:Int)) by omega),Bool.and_false]]
    rfl
  rw [if_neg h1,decide_eq_true (show 0 < (p.Nc.length:Int) by omega),decide_eq_true (show 0 < (p.Nb.length:Int) by omega)];by_cases h2:8 < p.Nc.length\/3 < p.Nb.length\/4 < p.Na.length\/10 < p.Nk.length
  · rw [if_pos h2, show (((decide (8 < (p.Nc.length : Int)) || decide (3 < (p.Nb.length : Int))) || decide (4 < (p.Na.length : Int))) || decide (10 < (p.Nk.length : Int))) = true by
      simp only [Bool.or_eq_true,decide_eq_true_eq];omega]
    rfl
  rw [if_neg h2, show (((decide (8 < (p.Nc.length : Int)) || decide (3 < (p.Nb.length : Int))) || decide (4 < (p.Na.length : Int))) || decide (10 < (p.Nk.length : Int))) = false by
      rw [decide_eq_false (by omega),decide_eq_false (by omega),decide_eq_false (by omega),decide_eq_false (by omega)];rfl]
  unfold Qru Qrv Qrx Qrz;rw [QAn _ _ h.se h.sn,QAn _ _ h.tr h.tn,QXa h,QUu h];have hz:∀ {f:Nat->Int} {n i:Nat},XE f n=some i->f i≠0:=fun {f n i} hf=>by
    rcases Qld f n with ⟨k1,_⟩ | ⟨j,k1,_,k3,_⟩
    · rw [k1] at hf;cases hf
    · rw [k1] at hf;cases hf;exact k3
  simp only [Et,Eh,cond_true,Zw,if_true,decide_true,Ef,cond_false,Qr];cases h3:XE (Zg p.Nc) p.Nc.length with
  | some i=>simp [hz h3]
  | none =>
    simp only [decide_true,Ef,cond_false];cases h4:XE (Zg p.Nb) p.Nb.length with
    | some i=>simp [hz h4]
    | none =>
      simp only [decide_true,Ef,cond_false];cases h5:XE (ZM p) p.Na.length with
      | some i=>simp [hz h5]
      | none =>
        simp only [decide_true,Ef,cond_false];cases h6:XE (ZJ p) p.Nk.length with
        | some i=>simp [hz h6]
        | none=>simp
theorem Qtr {p:Nf} (h:PlantS p):Qeb p=some (Y0 p).2:=by
 unfold Qeb;rw [QHi h];rfl
end Go.Gw

end
section
set_option maxRecDepth 4096
namespace Go.Gw
open Go
attribute [local irreducible] loop
theorem Qkw {α:Type} {xs:List α} (h:1<=xs.length):cut xs 1 (xs.length:Int)=some (xs.drop 1):=by
 unfold cut;rw [if_pos (by omega),Ew,List.take_length];rfl
structure StateS (x:Ng):Prop where
 sw:x.Na.length < 1000
 tr:x.Nb.length < 1000
 ch:∀ t∈x.Nb,t.Nd.length < 1000
def Yk (x:Ng) (s:Int):Int:=Qbi (fun t:Nl=>decide (s∈t.Nd)) x.Nb
def ZO (x:Ng) (s:Int):Bool:=x.Nb.any fun t=>decide (s∈t.Nd)
theorem QLx (x:Ng) (s:Int):decide (0<=Yk x s)=ZO x s:=Qrp _ _
theorem QLy (p:Nf) {x:Ng} (h:StateS x) (s:Int):Qmh (some ⟨p,x⟩) s=some (Yk x s):=by
 have h1:=h.tr;unfold Qmh Qum Yk Qbi;rw [Qr];show (Ee (Ee (loop (Qop s x.Nb) 0) _) _)=_;rw [Zo x.Nb (fun t=>decide (s∈t.Nd)) (fun k _=>(k:Int)),Qr,Qgi,Qr]
 ·intro k hk;unfold Qop Qsl;rw [XN hk,cond_true,Xq hk,Qr,Qfg _ _ (by have:=h.ch _ (Ea hk);omega),Qr,Qr,Xz k (by omega)]
 ·unfold Qop;rw [XP];rfl
theorem Qvj (p:Nf) {x:Ng} (h:StateS x) (l:List Int) (hl:l.length < 1000):Qft (some ⟨p,x⟩) l=some (l.any (ZO x)):=by
 unfold Qft Qui Quq;rw [Zo l (ZO x) (fun k _=>(k:Int)),Qr,Qgi,Qr,Qjr]
 ·rfl
 ·intro k hk;unfold Qup Qso;rw [XN hk,cond_true,Xq hk,Qr,QLy p h,Qr,Qr,QLx,Xz k (by omega)]
 ·unfold Qup;rw [XP];rfl
def Qhw (secs:List Int) (q:Ns×(Int×Int)):Bool:=decide (q.1.Nq∈secs)&&!decide (q.2.1=q.2.2)
def Jc (p:Nf) (sw:List Int) (r:Nr) (secs:List Int):Bool:=!((p.Na.zip (r.Nu.zip sw)).any (Qhw secs))
theorem QWd (α:Type) (p:α->Bool) (l:List α):(Xv (Yg p (fun _ _=>false) 0 l) fun (_:Unit)=>some true)=some (!(l.any p)):=by
 rcases J3 (p:=p) (res:=fun _ _=>false) l 0 with ⟨k1,k2⟩ | ⟨j,x,k1,k2,k3⟩
 ·rw [k1,k2];rfl
 ·rw [k1,k3];rfl
theorem Qzq {p:Nf} {x:Ng} {r:Nr} {secs:List Int} (h1:r.Nu.length=p.Na.length) (h2:x.Na.length=p.Na.length) (h3:p.Na.length < 1000) (hs:secs.length < 1000):Qig (some ⟨p,x⟩) r secs=some (Jc p x.Na r secs):=by
 unfold Qig Jc;have hlen:(p.Na.zip (r.Nu.zip x.Na)).length=p.Na.length:=by simp [h1,h2]
 rw [Qr,Zo (p.Na.zip (r.Nu.zip x.Na)) (Qhw secs) (fun _ _=>false),Qr,QWd]
 ·intro k hk;rw [hlen] at hk;unfold Qsn;rw [XN hk,cond_true,Xq hk,Qr,Qfg _ _ (by omega),Qr,Xz k (by omega)];simp only [Qr];rw [Xq (show k < r.Nu.length by omega),Xq (show k < x.Na.length by omega)];simp only [Ej,Qhw,Qr];cases decide (p.Na[k].Nq∈secs)<;>rfl
 ·rw [hlen];unfold Qsn;rw [XP];rfl
theorem QHl (l:List Nl) (h:l.length < 1000000):Qoj l=some l:=by
 unfold Qoj;rw [Zt (by simp;omega)];rfl
theorem Qqp (l:List Int) (h:l.length < 1000000):Qdh l=some l:=by
 unfold Qdh;rw [Zt (by simp;omega)];rfl
theorem Qhu {α:Type} {xs:List α} {i:Int} (h0:0<=i) (h:i.toNat < xs.length):idx xs i=some xs[i.toNat]:=by
 unfold idx;rw [if_pos h0,Eb h]
theorem QPn (p:Nf) (x:Ng) {a:Int} (h0:0<=a) (hk:a.toNat < x.Nb.length) (hl:x.Nb.length < 1000) (c:List Int) (u:Int):Qcc (some ⟨p,x⟩) a c u=some (some ⟨p,⟨x.Na,x.Nb.set a.toNat ⟨c,u⟩,x.Ni⟩⟩):=by
 unfold Qcc;rw [Qr,QHl _ (by show x.Nb.length < _;omega),Qr];show Ee (idx x.Nb a) _=_;rw [Qhu h0 hk,Qr]
theorem QLp (n:Nat) (h:n < 1000000):Qoo (n:Int)=some []:=by
 unfold Qoo;rw [decide_eq_false (show ¬ (n:Int) < 0 by omega)];simp only [cond_false,Qr,Eo,Int.sub_zero];rw [show w64 (0:Int)=0 from rfl,Int.sub_zero,Yh (by omega)];by_cases h0:0 < (n:Int)
 ·rw [decide_eq_true h0,cond_true];unfold mkZ
  first
  | (rw [if_pos (by omega),Qr];unfold cut;rw [if_pos (by simp)];rfl)
  | skip
 ·rw [decide_eq_false h0];rfl
theorem QHp (a b:List Int) (ha:a.length < 1000) (hb:b.length < 1000):Qok [a,b]=some (a++b):=by
 have f0:Qgf [a,b] (0,0)=some (.inl ((a.length:Int),1)):=by
  unfold Qgf;simp only [show decide ((0:Int) < (([a,b]:List (List Int)).length:Int))=true from rfl,cond_true,show idx [a,b] (0:Int)=some a from rfl,Qr,Int.zero_add];rw [Yh (by omega),decide_eq_false (by omega)];rfl
 have f1:Qgf [a,b] ((a.length:Int),1)=some (.inl (((a.length+b.length:Nat):Int),2)):=by
  unfold Qgf;simp only [show decide ((1:Int) < (([a,b]:List (List Int)).length:Int))=true from rfl,cond_true,show idx [a,b] (1:Int)=some b from rfl,Qr];rw [Yh (by omega),decide_eq_false (by omega),show ((a.length:Int)+(b.length:Int))=((a.length+b.length:Nat):Int) by omega];rfl
 have f2:Qgf [a,b] (((a.length+b.length:Nat):Int),2)=some (.inr ((a.length+b.length:Nat):Int)):=rfl;have g0:Qgg [a,b] ([],0)=some (.inl (a,1)):=by
  unfold Qgg;simp only [show decide ((0:Int) < (([a,b]:List (List Int)).length:Int))=true from rfl,cond_true,show idx [a,b] (0:Int)=some a from rfl,Qr];rw [Zt (by simp;omega)];rfl
 have g1:Qgg [a,b] (a,1)=some (.inl (a++b,2)):=by
  unfold Qgg;simp only [show decide ((1:Int) < (([a,b]:List (List Int)).length:Int))=true from rfl,cond_true,show idx [a,b] (1:Int)=some b from rfl,Qr];rw [Zt (by omega)];rfl
 have g2:Qgg [a,b] (a++b,2)=some (.inr (a++b)):=rfl;unfold Qok;rw [Qce f0,Qce f1,Qcf f2,Qr,QLp _ (by omega),Qr,Qce g0,Qce g1,Qcf g2,Qr]
/-! ### Events -/
def Qbo (p:Nf) (n:Int):Bool:=decide (0<=n)&&decide (n<=(p.Nb.length:Int) - 1)
def Qek (p:Nf) (n:Int):Bool:=decide (0<=n)&&decide (n<=(p.Na.length:Int) - 1)
def Qeh (p:Nf) (n:Int):Bool:=decide (0<=n)&&decide (n<=(p.Nk.length:Int) - 1)
def YS (n:Int):Bool:=decide (n=0)||decide (n=1)
def ZF (p:Nf) (e:Nj):Int :=
 if ¬ (0<=e.Kind/\e.Kind<=6) then 15 else if e.Kind=2 then (bif Qek p e.A then (bif YS e.B then 0 else 2) else 6) else
 bif Qbo p e.A then (if e.Kind=0 then (bif YB p e.B then 0 else 6) else if e.Kind=1 then (bif Qeh p e.B then 0 else 6) else if e.B=0 then 0 else 3) else 6
theorem Qlq {n:Int} {k:Nat} (hk:k < 1000):JH n 0 (w64 ((k:Int) - 1))=some (decide (0<=n)&&decide (n<=(k:Int) - 1)):=by
 rw [Qwa,Yh (by omega)]
theorem QDb {p:Nf} (h:PlantS p) (n:Int):Qip p n=some (bif YB p n then 0 else 6):=by
 unfold Qip;rw [Qlq h.se,Qr,Yr];rfl
theorem QYi {p:Nf} (h:PlantS p) (n:Int):Qmt p n=some (bif Qbo p n then 0 else 6):=by
 unfold Qmt;rw [Qlq h.tr,Qr,Yr];rfl
theorem Qyj {p:Nf} (h:PlantS p) (e:Nj):Qid p e=some (ZF p e):=by
  unfold Qid ZF;rw [Qzi,Qr];by_cases hk:0<=e.Kind/\e.Kind<=6
  · rw [if_neg (by omega),show (decide (0<=e.Kind)&&decide (e.Kind<=6))=true by simp [hk.1,hk.2]];simp only [Ef,cond_false];by_cases h2:e.Kind=2
    · rw [if_pos h2,decide_eq_true h2,cond_true,Qlq h.sw,Qr,Yr,Qr,show Qfq e.B=some (YS e.B) from rfl,Qr,Yr,Qr,Zn _ (by simp),Qr];show some (Zw [bif Qek p e.A then 0 else 6,_])=_;cases Qek p e.A<;>cases YS e.B<;>rfl
    · rw [if_neg h2,decide_eq_false h2,cond_false,Yr,Qr,QDb h,Qr,Qlq h.ro,Qr,Yr,Qr,QYi h];show (Ee (bif decide (e.Kind=0) then some (bif YB p e.B then 0 else 6) else bif decide (e.Kind=1) then some (bif Qeh p e.B then 0 else 6) else some _) _)=_;by_cases h0:e.Kind=0
      · rw [if_pos h0,decide_eq_true h0,cond_true,Qr,Qr,Zn _ (by simp),Qr];cases Qbo p e.A<;>cases YB p e.B<;>rfl
      · rw [if_neg h0,decide_eq_false h0,cond_false];by_cases h1:e.Kind=1
        · rw [if_pos h1,decide_eq_true h1,cond_true,Qr,Qr,Zn _ (by simp),Qr];cases Qbo p e.A<;>cases Qeh p e.B<;>rfl
        · rw [if_neg h1,decide_eq_false h1,cond_false,Qr,Qr,Zn _ (by simp),Qr];by_cases h3:e.B=0
          · rw [if_pos h3,decide_eq_true h3];cases Qbo p e.A<;>rfl
          · rw [if_neg h3,decide_eq_false h3];cases Qbo p e.A<;>rfl
  · rw [if_pos hk, show (decide (0 <= e.Kind) && decide (e.Kind <= 6)) = false by
      rw [Bool.and_eq_false_iff,decide_eq_false_iff_not,decide_eq_false_iff_not];omega]
    rfl
def Jl (x:Ng) (e:Nj):Nl:=x.Nb[e.A.toNat]?.getD ⟨[],0⟩
def Qgk (p:Nf) (e:Nj):Ns:=p.Na[e.A.toNat]?.getD ⟨ByteArray.mk #[],0⟩
def Qau (p:Nf) (e:Nj):Nr:=p.Nk[e.B.toNat]?.getD ⟨ByteArray.mk #[],[],[]⟩
def Qad (p:Nf) (x:Ng) (e:Nj):Int :=
 if e.Kind=2 then (bif ZO x (Qgk p e).Nq then 17 else 0) else
 if e.Kind=0 then (if (Jl x e).Nd.length=0 then (bif ZO x e.B then 17 else 0) else 22) else
 if (Jl x e).Nd.length=0 then 22 else
 if e.Kind=1 then (if (Qau p e).Nc.head?=(Jl x e).Nd.getLast? then (bif ((Qau p e).Nc.drop 1).any (ZO x) then 17 else bif Jc p x.Na (Qau p e) (Qau p e).Nc then 0 else 13) else 23) else
 if e.Kind=4 then (if 1 < (Jl x e).Nm then 0 else 12) else
 if e.Kind=3\/e.Kind=5 then (if (Jl x e).Nm < (Jl x e).Nd.length then 0 else 12) else
 if (Jl x e).Nd.length=1 then 0 else 17
def trX (p:Nf) (t:Nl) (e:Nj):Nl :=
 if e.Kind=0 then ⟨[e.B],1⟩ else if e.Kind=1 then ⟨t.Nd++(Qau p e).Nc.drop 1,t.Nm⟩ else if e.Kind=3 then ⟨t.Nd,t.Nm+1⟩ else
 if e.Kind=4 then ⟨t.Nd.drop 1,t.Nm - 1⟩ else if e.Kind=5 then ⟨t.Nd.take (t.Nd.length - 1),t.Nm⟩ else ⟨[],0⟩
def YR (p:Nf) (x:Ng) (e:Nj):Ng :=
 if e.Kind=2 then ⟨x.Na.set e.A.toNat e.B,x.Nb,x.Ni⟩ else ⟨x.Na,x.Nb.set e.A.toNat (trX p (Jl x e) e),x.Ni⟩
end Go.Gw

end
section
set_option maxRecDepth 4096
namespace Go.Gw
open Go
attribute [local irreducible] loop
theorem Qhr {f:Nat->Int} {n:Nat} (h:XE f n=none):∀ j,j < n->f j=0:=by
 rcases Qld f n with ⟨_,h2⟩ | ⟨i,h1,_⟩
 ·exact h2
 ·rw [h1] at h;cases h
theorem Qbg {f:Nat->Int} {n i:Nat} (h:XE f n=some i):i < n/\f i≠0/\∀ j,j < i->f j=0:=by
 rcases Qld f n with ⟨h1,_⟩ | ⟨j,h1,h2,h3,h4⟩
 ·rw [h1] at h;cases h
 ·rw [h1] at h;cases h;exact ⟨h2,h3,h4⟩
theorem QKv {f:Nat->Int} {n:Nat} (h:∀ j,j < n->f j=0):XE f n=none:=by
 cases hf:XE f n with
 | none=>rfl
 | some i=>obtain ⟨h1,h2,_⟩:=Qbg hf;exact absurd (h i h1) h2
theorem QBm {α:Type} {l:List α} (h:∀ k (hk:k < l.length),l[k]∉l.take k):l.Nodup:=by
 unfold Ex;rw [Ey];intro i j hi hj hij e;refine h j hj ?_;rw [<-e];exact Eg.2 ⟨i,by omega,rfl⟩
theorem QSh {α:Type} {l:List α} (h:l.Nodup) {k:Nat} (hk:k < l.length):l[k]∉l.take k:=by
 intro hm;obtain ⟨i,hi,e⟩:=Eg.1 hm;unfold Ex at h;rw [Ey] at h;exact h i k (by omega) hk (by omega) e
structure PlantOk (p:Nf):Prop where
 s1:1<=p.Nc.length
 s8:p.Nc.length<=8
 t1:1<=p.Nb.length
 t3:p.Nb.length<=3
 w4:p.Na.length<=4
 r10:p.Nk.length<=10
 ws:∀ s∈p.Na,YB p s.Nq=true
 r2:∀ r∈p.Nk,2<=r.Nc.length
 r8:∀ r∈p.Nk,r.Nc.length<=p.Nc.length
 rs:∀ r∈p.Nk,∀ s∈r.Nc,YB p s=true
 rd:∀ r∈p.Nk,r.Nc.Nodup
 rn:∀ r∈p.Nk,r.Nu.length=p.Na.length
 rx:∀ r∈p.Nk,(r.Nu.zip p.Na).any (Qar r)=false
theorem Qgc {p:Nf} {r:Nr} (h:rtX p r=0):2<=r.Nc.length/\r.Nc.length<=p.Nc.length/\(∀ s∈r.Nc,YB p s=true)/\r.Nc.Nodup/\r.Nu.length=p.Na.length/\(r.Nu.zip p.Na).any (Qar r)=false:=by
 unfold rtX at h;by_cases h1:r.Nc.length < 2
 ·rw [if_pos h1] at h;cases h
 rw [if_neg h1] at h;by_cases h2:p.Nc.length < r.Nc.length
 ·rw [if_pos h2] at h;cases h
 rw [if_neg h2] at h;cases hf:XE (JL p r) r.Nc.length with
 | some i=>rw [hf] at h;exact absurd h (Qbg hf).2.1
 | none =>
  rw [hf] at h;have hz:∀ k (hk:k < r.Nc.length),rsE p r k r.Nc[k]=0:=fun k hk=>by
   have:=Qhr hf k hk;rwa [show JL p r k=rsE p r k r.Nc[k] from Jt _ _ _ hk] at this
  have hz2:∀ k (hk:k < r.Nc.length),YB p r.Nc[k]=true/\r.Nc[k]∉r.Nc.take k:=fun k hk=>by
   have:=hz k hk;unfold rsE at this;cases hb:YB p r.Nc[k] with
   | false=>rw [hb] at this;cases this
   | true =>
    rw [hb,cond_true] at this;refine ⟨rfl,fun hm=>?_⟩;rw [decide_eq_true hm] at this;cases this
  have h3:r.Nu.length=p.Na.length/\(r.Nu.zip p.Na).any (Qar r)=false:=by
   by_cases h5:r.Nu.length=p.Na.length
   ·simp only [h5,if_true] at h;refine ⟨h5,?_⟩;cases hb:(r.Nu.zip p.Na).any (Qar r) with
    | false=>rfl
    | true=>rw [hb] at h;cases h
   ·simp only [h5,if_false] at h;cases h
  refine ⟨by omega,by omega,fun s hs=>?_,QBm fun k hk=>(hz2 k hk).2,h3.1,h3.2⟩;obtain ⟨k,hk,rfl⟩:=Ec hs;exact (hz2 k hk).1
theorem Qnk {p:Nf} (h:(Y0 p).2=0):PlantOk p:=by
 unfold Y0 at h;by_cases h1:p.Nc.length=0\/p.Nb.length=0
 ·rw [if_pos h1] at h;cases h
 rw [if_neg h1] at h;by_cases h2:8 < p.Nc.length\/3 < p.Nb.length\/4 < p.Na.length\/10 < p.Nk.length
 ·rw [if_pos h2] at h;cases h
 rw [if_neg h2] at h;cases h3:XE (Zg p.Nc) p.Nc.length with
 | some i=>rw [h3] at h;exact absurd h (Qbg h3).2.1
 | none =>
  rw [h3] at h;cases h4:XE (Zg p.Nb) p.Nb.length with
  | some i=>rw [h4] at h;exact absurd h (Qbg h4).2.1
  | none =>
   rw [h4] at h;cases h5:XE (ZM p) p.Na.length with
   | some i=>rw [h5] at h;exact absurd h (Qbg h5).2.1
   | none =>
    rw [h5] at h;cases h6:XE (ZJ p) p.Nk.length with
    | some i=>rw [h6] at h;exact absurd h (Qbg h6).2.1
    | none =>
     have hr:∀ r∈p.Nk,rtX p r=0:=fun r hr=>by
      obtain ⟨k,hk,rfl⟩:=Ec hr;have:=Qhr h6 k hk;rw [show ZJ p k=rtE p k p.Nk[k] from Jt _ _ _ hk] at this;unfold rtE at this;by_cases hn:ZH p.Nk[k].Name ((p.Nk.take k).map (·.Name))=0
      ·rwa [if_pos hn] at this
      ·rw [if_neg hn] at this;exact absurd this hn
     refine ⟨by omega,by omega,by omega,by omega,by omega,by omega,fun s hs=>?_,fun r h=>(Qgc (hr r h)).1,fun r h=>(Qgc (hr r h)).2.1,fun r h=>(Qgc (hr r h)).2.2.1,fun r h=>(Qgc (hr r h)).2.2.2.1,fun r h=>(Qgc (hr r h)).2.2.2.2.1,fun r h=>(Qgc (hr r h)).2.2.2.2.2⟩;obtain ⟨k,hk,rfl⟩:=Ec hs;have:=Qhr h5 k hk;rw [show ZM p k=swE p k p.Na[k] from Jt _ _ _ hk] at this;unfold swE at this;by_cases hn:ZH p.Na[k].Name ((p.Na.take k).map (·.Name))=0
     ·rw [if_pos hn] at this;unfold swX at this;cases hb:YB p p.Na[k].Nq with
      | true=>rfl
      | false=>rw [hb] at this;cases this
     ·rw [if_neg hn] at this;exact absurd this hn
def Qat (r:Nr) (a b:Int):Bool:=(r.Nc.zip (r.Nc.drop 1)).any fun q=>decide (q.1=a)&&decide (q.2=b)
def Qbj (p:Nf) (sw:List Int) (a b:Int):Bool:=p.Nk.any fun r=>Qat r a b&&Jc p sw r [a,b]
theorem pairB_iff {r:Nr} {a b:Int}:Qat r a b=true↔∃ k,∃ hk:k+1 < r.Nc.length,r.Nc[k]=a/\r.Nc[k+1]=b:=by
 unfold Qat;rw [List.any_eq_true];constructor
 ·rintro ⟨q,hq,h⟩;obtain ⟨k,hk,rfl⟩:=Ec hq;simp only [Eu,Ei] at hk;simp only [Ej,Em,Ek,decide_eq_true_eq] at h;refine ⟨k,by omega,h.1,?_⟩;rw [<-h.2];congr 1;omega
 ·rintro ⟨k,hk,h1,h2⟩;refine ⟨(r.Nc[k],r.Nc[k+1]),?_,by simp [h1,h2]⟩;rw [EE];refine ⟨k,by simp only [Eu,Ei];omega,?_⟩;simp only [Ej,Em,Prod.mk.injEq,true_and];congr 1;omega
structure StateOk (p:Nf) (x:Ng):Prop where
 sw:x.Na.length=p.Na.length
 tr:x.Nb.length=p.Nb.length
 pos:∀ n∈x.Na,YS n=true
 cnt:Xj x.Ni=true
 un:∀ t∈x.Nb,(t.Nd=[]/\t.Nm=0)\/(1<=t.Nm/\t.Nm<=t.Nd.length)
 sc:∀ t∈x.Nb,∀ s∈t.Nd,YB p s=true
 nd:∀ t∈x.Nb,t.Nd.Nodup
 dj:∀ i j (hi:i < x.Nb.length) (hj:j < x.Nb.length),i≠j->∀ s∈x.Nb[i].Nd,s∉x.Nb[j].Nd
 ld:∀ t∈x.Nb,∀ k (hk:k+1 < t.Nd.length),Qbj p x.Na t.Nd[k] t.Nd[k+1]=true
theorem QBl:∀ (n:Nat) (l:List Int),l.Nodup->(∀ s∈l,0<=s/\s < (n:Int))->l.length<=n
  | 0,l,_,h=>by
    cases l with
    | nil=>simp
    | cons x xs=>have:=h x (by simp);omega
  | n+1,l,hn,h=>by
    have h1:=QBl n (l.filter fun s=>decide (s≠(n:Int))) (hn.filter _) fun s hs=>by
      rw [List.mem_filter] at hs;have:=h s hs.1;have:=hs.2;simp at this;omega
    have h2:l.length<=(l.filter fun s=>decide (s≠(n:Int))).length+1:=by
      clear h h1
      induction l with
      | nil=>simp
      | cons x xs ih =>
        rw [List.nodup_cons] at hn;by_cases hx:x=(n:Int)
        · have : xs.filter (fun s => decide (s ≠ (n : Int))) = xs := by
            rw [List.filter_eq_self];intro a ha;simp only [ne_eq,decide_not,Es,decide_eq_false_iff_not];intro e;subst hx;subst e;exact hn.1 ha
          rw [List.filter_cons_of_neg (by simp [hx]),this];simp
        · rw [List.filter_cons_of_pos (by simp [hx])];have:=ih hn.2;simp only [List.length_cons];omega
    omega
theorem StateOk.len {p:Nf} {x:Ng} (h:StateOk p x) {t:Nl} (ht:t∈x.Nb):t.Nd.length<=p.Nc.length :=
 QBl _ _ (h.nd t ht) fun s hs=>by
  have:=h.sc t ht s hs;unfold YB at this;simp at this;omega
theorem StateOk.s {p:Nf} (hp:PlantOk p) {x:Ng} (h:StateOk p x):StateS x :=
 ⟨by have:=h.sw;have:=hp.w4;omega,by have:=h.tr;have:=hp.t3;omega,fun t ht=>by have:=h.len ht;have:=hp.s8;omega⟩
end Go.Gw

end
section
set_option maxRecDepth 4096
namespace Go.Gw
open Go
attribute [local irreducible] loop
theorem liesB_iff {p:Nf} {sw:List Int} {r:Nr} {secs:List Int}:Jc p sw r secs=true↔∀ k (h1:k < p.Na.length) (h2:k < r.Nu.length) (h3:k < sw.length),p.Na[k].Nq∈secs->r.Nu[k]=sw[k]:=by
  unfold Jc;rw [Es,En];constructor
  · intro h k h1 h2 h3 hm;have:=h (p.Na[k],(r.Nu[k],sw[k])) (by
      rw [EE];exact ⟨k,by simp only [Eu];omega,by simp only [Ej]⟩)
    simp only [Qhw,hm,decide_true,Et,Es,decide_eq_false_iff_not,Decidable.not_not] at this;exact this
  · intro h q hq;obtain ⟨k,hk,rfl⟩:=Ec hq;simp only [Eu] at hk;simp only [Ej,Qhw,Ek,decide_eq_true_eq,Es,decide_eq_false_iff_not,not_and,Decidable.not_not];exact fun hm=>h k (by omega) (by omega) (by omega) hm
theorem QNb {p:Nf} {sw:List Int} {r:Nr} {a b:List Int} (h:Jc p sw r a=true) (hs:∀ s∈b,s∈a):Jc p sw r b=true :=
 liesB_iff.2 fun k h1 h2 h3 hm=>liesB_iff.1 h k h1 h2 h3 (hs _ hm)
theorem QNc {p:Nf} {sw:List Int} {r:Nr} {a:List Int} {i:Nat} {v:Int} (hi:∀ h:i < p.Na.length,p.Na[i].Nq∉a) (h:Jc p sw r a=true):Jc p (sw.set i v) r a=true :=
 liesB_iff.2 fun k h1 h2 h3 hm=>by
  have hne:i≠k:=fun e=>by subst e;exact hi h1 hm
  rw [List.getElem_set_ne hne];exact liesB_iff.1 h k h1 h2 (by simpa using h3) hm
theorem leadsB_iff {p:Nf} {sw:List Int} {a b:Int}:Qbj p sw a b=true↔∃ r∈p.Nk,Qat r a b=true/\Jc p sw r [a,b]=true:=by
 unfold Qbj;rw [List.any_eq_true];simp only [Ek]
theorem Qvi {x:Ng} {s:Int} (h:ZO x s=false):∀ t∈x.Nb,s∉t.Nd:=by
 unfold ZO at h;rw [En] at h;intro t ht hm;exact h t ht (decide_eq_true hm)
theorem Qge {p:Nf} {x:Ng} (h:StateOk p x) {a:Nat} (ha:a < x.Nb.length) {t:Nl} (h1:(t.Nd=[]/\t.Nm=0)\/(1<=t.Nm/\t.Nm<=t.Nd.length)) (h2:∀ s∈t.Nd,YB p s=true) (h3:t.Nd.Nodup)
  (h4:∀ j (hj:j < x.Nb.length),j≠a->∀ s∈t.Nd,s∉x.Nb[j].Nd) (h5:∀ k (hk:k+1 < t.Nd.length),Qbj p x.Na t.Nd[k] t.Nd[k+1]=true):StateOk p ⟨x.Na,x.Nb.set a t,x.Ni⟩:=by
 have hm:∀ u∈x.Nb.set a t,u=t\/u∈x.Nb:=fun u hu=>by
  rcases Ez hu with h | h
  ·exact .inr h
  ·exact .inl h
 refine ⟨h.sw,by simpa using h.tr,h.pos,h.cnt,fun u hu=>?_,fun u hu=>?_,fun u hu=>?_,fun i j hi hj hij s hs=>?_,fun u hu=>?_⟩
 ·rcases hm u hu with rfl | hu
  ·exact h1
  ·exact h.un u hu
 ·rcases hm u hu with rfl | hu
  ·exact h2
  ·exact h.sc u hu
 ·rcases hm u hu with rfl | hu
  ·exact h3
  ·exact h.nd u hu
 ·simp only [List.length_set] at hi hj;simp only [List.getElem_set] at hs ⊢;by_cases h6:a=i
  ·rw [if_pos h6] at hs;rw [if_neg (by omega)];exact h4 j hj (by omega) s hs
  ·rw [if_neg h6] at hs;by_cases h7:a=j
   ·rw [if_pos h7];exact fun hm=>h4 i hi (by omega) s hm hs
   ·rw [if_neg h7];exact h.dj i j hi hj hij s hs
 ·rcases hm u hu with rfl | hu
  ·exact h5
  ·exact h.ld u hu
theorem Qlb {p:Nf} {e:Nj} (h:ZF p e=0):0<=e.Kind/\e.Kind<=6:=by
 unfold ZF at h;by_cases h1:¬ (0<=e.Kind/\e.Kind<=6)
 ·rw [if_pos h1] at h;cases h
 ·omega
theorem Qyi {p:Nf} {e:Nj} (h:ZF p e=0) (hk:e.Kind=2):0<=e.A/\e.A.toNat < p.Na.length/\YS e.B=true:=by
 have h1:=Qlb h;unfold ZF at h;rw [if_neg (by omega),if_pos hk] at h;cases hb:Qek p e.A with
 | false=>rw [hb] at h;cases h
 | true =>
  rw [hb] at h;cases hc:YS e.B with
  | false=>rw [hc] at h;cases h
  | true =>
   unfold Qek at hb;simp at hb;exact ⟨hb.1,by omega,rfl⟩
theorem Qyh {p:Nf} {e:Nj} (h:ZF p e=0) (hk:e.Kind≠2):0<=e.A/\e.A.toNat < p.Nb.length/\(e.Kind=0->YB p e.B=true)/\(e.Kind=1->0<=e.B/\e.B.toNat < p.Nk.length)/\(e.Kind≠0->e.Kind≠1->e.B=0):=by
 have h1:=Qlb h;unfold ZF at h;rw [if_neg (by omega),if_neg hk] at h;cases hb:Qbo p e.A with
 | false=>rw [hb] at h;cases h
 | true =>
  rw [hb,cond_true] at h;unfold Qbo at hb;simp at hb;refine ⟨hb.1,by omega,fun h0=>?_,fun h0=>?_,fun h0 h2=>?_⟩
  ·rw [if_pos h0] at h;cases hc:YB p e.B with
   | true=>rfl
   | false=>rw [hc] at h;cases h
  ·rw [if_neg (by omega),if_pos h0] at h;cases hc:Qeh p e.B with
   | false=>rw [hc] at h;cases h
   | true=>unfold Qeh at hc;simp at hc;omega
  ·rw [if_neg h0,if_neg h2] at h;by_cases h3:e.B=0
   ·exact h3
   ·rw [if_neg h3] at h;cases h
theorem Qpa {x:Ng} {e:Nj} (h:e.A.toNat < x.Nb.length):Jl x e=x.Nb[e.A.toNat]:=by
 unfold Jl;rw [Eb h];rfl
theorem QDw {p:Nf} {e:Nj} (h:e.A.toNat < p.Na.length):Qgk p e=p.Na[e.A.toNat]:=by
 unfold Qgk;rw [Eb h];rfl
theorem Qtz {p:Nf} {e:Nj} (h:e.B.toNat < p.Nk.length):Qau p e=p.Nk[e.B.toNat]:=by
 unfold Qau;rw [Eb h];rfl
theorem QDn {p:Nf} (hp:PlantOk p) {x:Ng} (h:StateOk p x) {e:Nj} (he:ZF p e=0) (hs:Qad p x e=0):StateOk p (YR p x e):=by
  have hk:=Qlb he;unfold YR;by_cases h2:e.Kind=2
  · rw [if_pos h2];obtain ⟨a0,a1,a2⟩:=Qyi he h2;unfold Qad at hs;rw [if_pos h2] at hs;have hn:ZO x (Qgk p e).Nq=false:=by
      cases hb:ZO x (Qgk p e).Nq with
      | false=>rfl
      | true=>rw [hb] at hs;cases hs
    rw [QDw a1] at hn;refine ⟨by simpa using h.sw,h.tr,fun n hn=>?_,h.cnt,h.un,h.sc,h.nd,h.dj,fun t ht k hk=>?_⟩
    · rcases Ez hn with h3 | rfl
      · exact h.pos n h3
      · exact a2
    · obtain ⟨r,hr,h3,h4⟩:=leadsB_iff.1 (h.ld t ht k hk);refine leadsB_iff.2 ⟨r,hr,h3,QNc (fun hi hm=>?_) h4⟩;have h5:=Qvi hn t ht;rcases List.mem_cons.1 hm with e1 | hm
      · rw [e1] at h5;exact h5 (Ea _)
      · rw [Eq_.1 hm] at h5;exact h5 (Ea _)
  rw [if_neg h2];obtain ⟨a0,a1,a2,a3,a4⟩:=Qyh he h2;have ha:e.A.toNat < x.Nb.length:=by rw [h.tr];exact a1
  have ht:Jl x e∈x.Nb:=by rw [Qpa ha];exact Ea ha
  have hd:∀ j (hj:j < x.Nb.length),j≠e.A.toNat->∀ s∈(Jl x e).Nd,s∉x.Nb[j].Nd:=fun j hj hne s hs=>by
    rw [Qpa ha] at hs;exact h.dj _ j ha hj (by omega) s hs
  have hu:=h.un _ ht;have hsc:=h.sc _ ht;have hnd:=h.nd _ ht;have hld:=h.ld _ ht;unfold Qad at hs;rw [if_neg h2] at hs;unfold trX;generalize Jl x e=t at *
  by_cases h0:e.Kind=0
  · rw [if_pos h0] at hs;rw [if_pos h0];by_cases hc:t.Nd.length=0
    · rw [if_pos hc] at hs;have hn:ZO x e.B=false:=by
        cases hb:ZO x e.B with
        | false=>rfl
        | true=>rw [hb] at hs;cases hs
      refine Qge h ha (.inr (by simp)) (fun s hs=>?_) (by simp) (fun j hj hne s hs hm=>?_) (fun k hk=>?_)
      · simp only [Eq_] at hs;subst hs;exact a2 h0
      · simp only [Eq_] at hs;subst hs;exact Qvi hn _ (Ea hj) hm
      · simp at hk
    · rw [if_neg hc] at hs;cases hs
  rw [if_neg h0] at hs;rw [if_neg h0];by_cases hc:t.Nd.length=0
  · rw [if_pos hc] at hs;cases hs
  rw [if_neg hc] at hs;have hu2:1<=t.Nm/\t.Nm<=t.Nd.length:=by
    rcases hu with ⟨h3,_⟩ | h3
    · rw [h3] at hc;exact absurd rfl hc
    · exact h3
  by_cases h1:e.Kind=1
  · rw [if_pos h1] at hs;rw [if_pos h1];obtain ⟨b0,b1⟩:=a3 h1;have hr:Qau p e∈p.Nk:=by rw [Qtz b1];exact Ea b1
    generalize Qau p e=r at *
    by_cases h3:r.Nc.head?=t.Nd.getLast?
    · rw [if_pos h3] at hs;have hn:(r.Nc.drop 1).any (ZO x)=false:=by
        cases hb:(r.Nc.drop 1).any (ZO x) with
        | false=>rfl
        | true=>rw [hb] at hs;cases hs
      have hl:Jc p x.Na r r.Nc=true:=by
        rw [hn] at hs;cases hb:Jc p x.Na r r.Nc with
        | true=>rfl
        | false=>rw [hb] at hs;cases hs
      rw [En] at hn;have hn2:∀ s∈r.Nc.drop 1,∀ u∈x.Nb,s∉u.Nd:=fun s hs=>Qvi (by have:=hn s hs;simpa using this)
      have h2r:=hp.r2 r hr;have hlast:∀ hi:t.Nd.length - 1 < t.Nd.length,∀ hj:0 < r.Nc.length,t.Nd[t.Nd.length - 1]=r.Nc[0]:=fun hi hj=>by
        rw [EC,EA,Eb hj,Eb hi] at h3;exact (EJ.inj h3).symm
      refine Qge h ha (.inr ?_) (fun s hs=>?_) ?_ (fun j hj hne s hs=>?_) (fun k hk=>?_)
      · simp only [Er];omega
      · rcases List.mem_append.1 hs with h4 | h4
        · exact hsc s h4
        · exact hp.rs r hr s (Ev h4)
      · show (t.Nd++r.Nc.drop 1).Nodup;rw [List.nodup_append];refine ⟨hnd,Ex.sublist (List.drop_sublist _ _) (hp.rd r hr),fun s hs u hu e=>?_⟩;subst e;exact hn2 s hu t ht hs
      · rcases List.mem_append.1 hs with h4 | h4
        · exact hd j hj hne s h4
        · exact hn2 s h4 _ (Ea hj)
      · simp only [Er,Ei] at hk;by_cases h5:k+1 < t.Nd.length
        · simp only [List.getElem_append,h5,dif_pos,show k < t.Nd.length by omega];exact hld k h5
        · have e2 : (t.Nd ++ r.Nc.drop 1)[k + 1]'(by simp only [Er, Ei]; omega) = r.Nc[k + 1 - t.Nd.length + 1]'(by omega) := by
            rw [EB (by omega),Em];congr 1;omega
          have e1:(t.Nd++r.Nc.drop 1)[k]'(by simp only [Er, Ei];omega)=r.Nc[k+1 - t.Nd.length]'(by omega) := by
            by_cases h6:k+1=t.Nd.length
            · rw [List.getElem_append_left (show k < t.Nd.length by omega)];have:=hlast (by omega) (by omega);simp only [show k+1 - t.Nd.length=0 by omega,<-this];congr 1;omega
            · rw [EB (by omega),Em];congr 1;omega
          rw [e1,e2];refine leadsB_iff.2 ⟨r,hr,pairB_iff.2 ⟨k+1 - t.Nd.length,by omega,rfl,rfl⟩,QNb hl fun s hs=>?_⟩;rcases List.mem_cons.1 hs with rfl | hs
          · exact Ea _
          · rw [Eq_.1 hs];exact Ea _
    · rw [if_neg h3] at hs;cases hs
  rw [if_neg h1] at hs;rw [if_neg h1];by_cases h4:e.Kind=4
  · rw [if_pos h4] at hs;rw [if_neg (by omega),if_pos h4];have hx:1 < t.Nm:=by
      by_cases h5:1 < t.Nm
      · exact h5
      · rw [if_neg h5] at hs;cases hs
    refine Qge h ha (.inr ?_) (fun s hs=>hsc s (Ev hs)) (Ex.sublist (List.drop_sublist _ _) hnd) (fun j hj hne s hs=>hd j hj hne s (Ev hs)) (fun k hk=>?_)
    · simp only [Ei];omega
    · simp only [Ei] at hk;simp only [Em];have:=hld (1+k) (by omega);exact this
  rw [if_neg h4] at hs;rw [show (if e.Kind=4 then (⟨t.Nd.drop 1,t.Nm - 1⟩:Nl) else if e.Kind=5 then ⟨t.Nd.take (t.Nd.length - 1),t.Nm⟩ else ⟨[],0⟩)=(if e.Kind=5 then ⟨t.Nd.take (t.Nd.length - 1),t.Nm⟩ else ⟨[],0⟩) from if_neg h4];by_cases h35:e.Kind=3\/e.Kind=5
  · rw [if_pos h35] at hs;have hx:t.Nm < t.Nd.length:=by
      by_cases h5:t.Nm < t.Nd.length
      · exact h5
      · rw [if_neg h5] at hs;cases hs
    by_cases h3:e.Kind=3
    · rw [if_pos h3];exact Qge h ha (.inr ⟨by show 1<=t.Nm+1;omega,by show t.Nm+1<=(t.Nd.length:Int);omega⟩) hsc hnd hd hld
    · rw [if_neg h3,if_pos (by omega)];refine Qge h ha (.inr ?_) (fun s hs=>hsc s (EF hs)) (Ex.sublist (List.take_sublist _ _) hnd) (fun j hj hne s hs=>hd j hj hne s (EF hs)) (fun k hk=>?_)
      · simp only [List.length_take];omega
      · simp only [List.length_take] at hk;simp only [List.getElem_take];exact hld k (by omega)
  · rw [if_neg (by omega),if_neg (by omega)];exact Qge h ha (.inl ⟨rfl,rfl⟩) (fun s hs=>by simp at hs) (by simp) (fun j hj hne s hs=>by simp at hs) (fun k hk=>by simp at hk)
end Go.Gw

end
section
set_option maxRecDepth 4096
namespace Go.Gw
open Go
attribute [local irreducible] loop
def chE (p:Nf) (x:Ng) (n:Nat) (t:Nl) (k:Nat) (s:Int):Int :=
 bif YB p s then (bif decide (s∈t.Nd.take k)||(x.Nb.take n).any (fun o=>decide (s∈o.Nd)) then 17 else if k=0 then 0 else bif Qbj p x.Na (t.Nd[k - 1]?.getD 0) s then 0 else 23) else 6
def Qby (p:Nf) (x:Ng) (n:Nat) (t:Nl) (k:Nat):Int:=(t.Nd[k]?.map (chE p x n t k)).getD 0
def Qcr (t:Nl):Bool:=if t.Nd.length=0 then decide (t.Nm=0) else decide (1<=t.Nm)&&decide (t.Nm<=t.Nd.length)
def tsE (p:Nf) (x:Ng) (n:Nat) (t:Nl):Int:=bif Qcr t then (match XE (Qby p x n t) t.Nd.length with | some k=>Qby p x n t k | none=>0) else 3
def Qay (p:Nf) (x:Ng) (n:Nat):Int:=(x.Nb[n]?.map (tsE p x n)).getD 0
def Qoq (p:Nf) (x:Ng):Int :=
 if x.Na.length=p.Na.length/\x.Nb.length=p.Nb.length then
  (bif x.Na.all YS&&Xj x.Ni then (match XE (Qay p x) x.Nb.length with | some k=>Qay p x k | none=>0) else 2) else 10
theorem tsE_zero {p:Nf} {x:Ng} {n:Nat} {t:Nl}:tsE p x n t=0↔Qcr t=true/\∀ k (hk:k < t.Nd.length),chE p x n t k t.Nd[k]=0:=by
 unfold tsE;cases hu:Qcr t with
 | false=>simp
 | true =>
  simp only [cond_true,true_and];have hg:∀ k (hk:k < t.Nd.length),Qby p x n t k=chE p x n t k t.Nd[k]:=fun k hk=>Jt _ _ _ hk
  cases hf:XE (Qby p x n t) t.Nd.length with
  | some k =>
   obtain ⟨h1,h2,_⟩:=Qbg hf;constructor
   ·intro h;exact absurd h h2
   ·intro h;exact absurd ((hg k h1).trans (h k h1)) h2
  | none=>exact ⟨fun _ k hk=>(hg k hk).symm.trans (Qhr hf k hk),fun _=>rfl⟩
theorem chE_zero {p:Nf} {x:Ng} {n:Nat} {t:Nl} {k:Nat} {s:Int}:chE p x n t k s=0↔YB p s=true/\s∉t.Nd.take k/\(∀ o∈x.Nb.take n,s∉o.Nd)/\(k≠0->Qbj p x.Na (t.Nd[k - 1]?.getD 0) s=true):=by
  unfold chE;cases YB p s with
  | false=>simp
  | true =>
    simp only [cond_true,true_and];by_cases h1:s∈t.Nd.take k
    · simp [h1]
    by_cases h2:∀ o∈x.Nb.take n,s∉o.Nd
    · have h3 : (x.Nb.take n).any (fun o => decide (s ∈ o.Nd)) = false := by
        rw [En];intro o ho hm;exact h2 o ho (of_decide_eq_true hm)
      rw [h3,decide_eq_false h1];by_cases hk:k=0
      · simp [hk];exact h2
      · simp only [EH,cond_false,if_neg hk];cases Qbj p x.Na (t.Nd[k - 1]?.getD 0) s with
        | false=>simp [hk]
        | true=>simp [h1];exact h2
    · have h3 : (x.Nb.take n).any (fun o => decide (s ∈ o.Nd)) = true := by
        cases hb:(x.Nb.take n).any (fun o=>decide (s∈o.Nd)) with
        | true=>rfl
        | false =>
          rw [En] at hb;exact absurd (fun o ho hm=>hb o ho (decide_eq_true hm)) h2
      rw [h3,Bool.or_true];simp [h2]
theorem undB_iff {t:Nl}:Qcr t=true↔(t.Nd=[]/\t.Nm=0)\/(1<=t.Nm/\t.Nm<=t.Nd.length):=by
 unfold Qcr;by_cases h:t.Nd.length=0
 ·rw [if_pos h];have h2:t.Nd=[]:=List.length_eq_zero_iff.1 h;simp only [decide_eq_true_eq];constructor
  ·intro h3;exact .inl ⟨h2,h3⟩
  ·rintro (h3 | h3)
   ·exact h3.2
   ·omega
 ·rw [if_neg h];simp only [Ek,decide_eq_true_eq];constructor
  ·intro h3;exact .inr h3
  ·rintro (h3 | h3)
   ·rw [h3.1] at h;exact absurd rfl h
   ·exact h3
theorem state_iff {p:Nf} {x:Ng}:Qoq p x=0↔StateOk p x:=by
  have hg:∀ k (hk:k < x.Nb.length),Qay p x k=tsE p x k x.Nb[k]:=fun k hk=>Jt _ _ _ hk
  unfold Qoq;constructor
  · intro h;by_cases h1:x.Na.length=p.Na.length/\x.Nb.length=p.Nb.length
    · rw [if_pos h1] at h;cases h2:x.Na.all YS&&Xj x.Ni with
      | false=>rw [h2] at h;cases h
      | true =>
        rw [h2,cond_true] at h;rw [Ek,List.all_eq_true] at h2;cases hf:XE (Qay p x) x.Nb.length with
        | some k=>rw [hf] at h;exact absurd h (Qbg hf).2.1
        | none =>
          have hz:∀ n (hn:n < x.Nb.length),Qcr x.Nb[n]=true/\∀ k (hk:k < x.Nb[n].Nd.length),chE p x n x.Nb[n] k x.Nb[n].Nd[k]=0:=fun n hn=>tsE_zero.1 ((hg n hn).symm.trans (Qhr hf n hn))
          refine ⟨h1.1,h1.2,h2.1,h2.2,fun t ht=>?_,fun t ht s hs=>?_,fun t ht=>?_,fun i j hi hj hij s hs hm=>?_,fun t ht k hk=>?_⟩
          · obtain ⟨n,hn,rfl⟩:=Ec ht;exact undB_iff.1 (hz n hn).1
          · obtain ⟨n,hn,rfl⟩:=Ec ht;obtain ⟨k,hk,rfl⟩:=Ec hs;exact (chE_zero.1 ((hz n hn).2 k hk)).1
          · obtain ⟨n,hn,rfl⟩:=Ec ht;exact QBm fun k hk=>(chE_zero.1 ((hz n hn).2 k hk)).2.1
          · rcases Nat.lt_or_gt_of_ne hij with h3 | h3
            · obtain ⟨k,hk,rfl⟩:=Ec hm;exact (chE_zero.1 ((hz j hj).2 k hk)).2.2.1 _ (Eg.2 ⟨i,by omega,rfl⟩) hs
            · obtain ⟨k,hk,rfl⟩:=Ec hs;exact (chE_zero.1 ((hz i hi).2 k hk)).2.2.1 _ (Eg.2 ⟨j,by omega,rfl⟩) hm
          · obtain ⟨n,hn,rfl⟩:=Ec ht;have:=(chE_zero.1 ((hz n hn).2 (k+1) hk)).2.2.2 (by omega);rwa [Nat.add_sub_cancel,Eb (show k < x.Nb[n].Nd.length by omega),Option.getD_some] at this
    · rw [if_neg h1] at h;cases h
  · intro h;rw [if_pos ⟨h.sw,h.tr⟩,show (x.Na.all YS&&Xj x.Ni)=true by rw [Ek,List.all_eq_true];exact ⟨h.pos,h.cnt⟩,cond_true];rw [QKv fun n hn=>by
      rw [hg n hn,tsE_zero];have ht:=Ea hn;refine ⟨undB_iff.2 (h.un _ ht),fun k hk=>chE_zero.2 ⟨h.sc _ ht _ (Ea hk),QSh (h.nd _ ht) hk,fun o ho hm=>?_,fun hk0=>?_⟩⟩
      · obtain ⟨i,hi,rfl⟩:=Eg.1 ho;exact h.dj i n (by omega) hn (by omega) _ hm (Ea hk)
      · rw [Eb (show k - 1 < x.Nb[n].Nd.length by omega),Option.getD_some];have:=h.ld _ ht (k - 1) (by omega);simp only [show k - 1+1=k by omega] at this;exact this]
end Go.Gw

end
section
set_option maxRecDepth 4096
namespace Go.Gw
open Go
attribute [local irreducible] loop
theorem QLw {a b:List Int} (ha:0 < a.length) (hb:0 < b.length):decide (a[0]=b[b.length - 1])=decide (a.head?=b.getLast?):=by
 rw [EC,EA,Eb ha,Eb (show b.length - 1 < b.length by omega)];simp only [EJ.injEq]
theorem Qxa {p:Nf} (hp:PlantOk p) {x:Ng} (h:StateOk p x) {e:Nj} (he:ZF p e=0) :
    Runs (Qfr (some ⟨p,x⟩) e) fun r=>r.2=Qad p x e/\(Qad p x e=0->r.1=some ⟨p,YR p x e⟩):=by
  have hs:=h.s hp;have hw4:=hp.w4;have ht3:=hp.t3;have hkd:=Qlb he;have hsl:=h.sw;have htl:=h.tr;unfold Qfr;by_cases h2:e.Kind=2
  · obtain ⟨a0,a1,a2⟩:=Qyi he h2;have e1:Qad p x e=(bif ZO x (Qgk p e).Nq then 17 else 0):=by unfold Qad;rw [if_pos h2]
    have e2:YR p x e=⟨x.Na.set e.A.toNat e.B,x.Nb,x.Ni⟩:=by unfold YR;rw [if_pos h2]
    rw [e1,e2,QDw a1,decide_eq_true h2,cond_true,Qr];show Runs (Ee (idx p.Na e.A) _) _;rw [Qhu a0 a1,Qr,Qvj p hs _ (by simp),Qr];simp only [EG,List.any_nil,EH];cases ZO x p.Na[e.A.toNat].Nq with
    | true=>exact Ed ⟨rfl,fun hh=>by cases hh⟩
    | false =>
      simp only [cond_false];rw [Qqp _ (by show x.Na.length < _;omega),Qr];show Runs (Ee (idx x.Na e.A) _) _;rw [Qhu a0 (by omega),Qr];exact Ed ⟨rfl,fun _=>rfl⟩
  obtain ⟨a0,a1,a2,a3,a4⟩:=Qyh he h2;have ha:e.A.toNat < x.Nb.length:=by omega
  have htm:Jl x e∈x.Nb:=by rw [Qpa ha];exact Ea ha
  have hcl:=h.len htm;have hs8:=hp.s8;have hu:=h.un _ htm;have e2:YR p x e=⟨x.Na,x.Nb.set e.A.toNat (trX p (Jl x e) e),x.Ni⟩:=by unfold YR;rw [if_neg h2]
  have hnx:=fun c u=>QPn p x a0 ha (by omega) c u
  rw [e2,decide_eq_false h2,cond_false,Qr];show Runs (Ee (idx x.Nb e.A) _) _;rw [Qhu a0 ha,Qr,<-Qpa ha];unfold Qad trX;simp only [if_neg h2];generalize Jl x e=t at *
  by_cases h0:e.Kind=0
  · simp only [if_pos h0,decide_eq_true h0,cond_true];rw [Yr,Qr,Qvj p hs _ (by simp),Qr,Yr,Qr,Zn _ (by simp),Qr,Qr];simp only [EG,List.any_nil,EH,Qyr];by_cases hc:t.Nd.length=0
    · simp only [hc,Eo,decide_true,cond_true,ne_eq,not_true_eq_false,if_false,if_true];cases ZO x e.B with
      | true=>exact Ed ⟨rfl,fun hh=>by cases hh⟩
      | false =>
        simp only [Eh,cond_true,decide_true,Ef,cond_false];rw [hnx,Qr];exact Ed ⟨rfl,fun _=>rfl⟩
    · rw [if_neg hc,decide_eq_false (show ¬ (t.Nd.length:Int)=0 by omega)];exact Ed ⟨rfl,fun hh=>by cases hh⟩
  simp only [if_neg h0,decide_eq_false h0,cond_false];by_cases hc:t.Nd.length=0
  · rw [decide_eq_true (show (t.Nd.length:Int)=0 by omega),if_pos hc];exact Ed ⟨rfl,fun hh=>by cases hh⟩
  rw [decide_eq_false (show ¬ (t.Nd.length:Int)=0 by omega),cond_false,Yr,Qr,if_neg hc];have hu2:1<=t.Nm/\t.Nm<=t.Nd.length:=by
    rcases hu with ⟨h3,_⟩ | h3
    · rw [h3] at hc;exact absurd rfl hc
    · exact h3
  by_cases h1:e.Kind=1
  · simp only [if_pos h1,decide_eq_true h1,cond_true];obtain ⟨b0,b1⟩:=a3 h1;rw [show (⟨p,x⟩:Nn).Nw.Nk=p.Nk from rfl,Qhu b0 b1,Qr,<-Qtz b1];have hr:Qau p e∈p.Nk:=by rw [Qtz b1];exact Ea b1
    generalize Qau p e=r at *
    have hr2:=hp.r2 r hr;have hr8:=hp.r8 r hr;have hrn:=hp.rn r hr;rw [Qkw (by omega),Qr,show (0:Int)=((0:Nat):Int) from rfl,Xq (show 0 < r.Nc.length by omega),Qr,
      show w64 ((t.Nd.length:Int) - 1)=((t.Nd.length - 1:Nat):Int) by rw [Yh (by omega)];omega,Xq (show t.Nd.length - 1 < t.Nd.length by omega),Qr,Yr,Qr,
      Qvj p hs _ (by simp;omega),Qr,Yr,Qr,Qzq hrn hsl (by omega) (by omega),Qr,Yr,Qr,Zn _ (by simp),Qr,QLw (by omega) (by omega),Qfl]
    by_cases h3:r.Nc.head?=t.Nd.getLast?
    · simp only [h3,decide_true,cond_true,Eo,ne_eq,not_true_eq_false,if_false,if_true];cases hb:(r.Nc.drop 1).any (ZO x) with
      | true=>exact Ed ⟨rfl,fun hh=>by cases hh⟩
      | false =>
        cases hl:Jc p x.Na r r.Nc with
        | false=>exact Ed ⟨rfl,fun hh=>by cases hh⟩
        | true =>
          simp only [Eh,cond_true,Eo,not_true_eq_false,if_false,decide_true,Ef,cond_false];rw [QHp _ _ (by omega) (by simp;omega),Qr,hnx,Qr];exact Ed ⟨rfl,fun _=>rfl⟩
    · simp only [h3,decide_false,cond_false,if_false];exact Ed ⟨rfl,fun hh=>by cases hh⟩
  simp only [if_neg h1,decide_eq_false h1,cond_false];by_cases h3:e.Kind=3
  · simp only [if_pos h3,decide_eq_true h3,cond_true];rw [if_neg (by omega),if_pos (.inl h3),hnx,Qr,Yh (by omega)];by_cases h5:t.Nm < t.Nd.length
    · rw [if_pos h5,decide_eq_true h5];exact Ed ⟨rfl,fun _=>rfl⟩
    · rw [if_neg h5,decide_eq_false h5];exact Ed ⟨rfl,fun hh=>by cases hh⟩
  simp only [if_neg h3,decide_eq_false h3,cond_false];by_cases h4:e.Kind=4
  · simp only [if_pos h4,decide_eq_true h4,cond_true];rw [Qkw (by omega),Qr,hnx,Qr,Yr,Qr,Yh (by omega)];by_cases h5:1 < t.Nm
    · rw [if_pos h5,decide_eq_true h5];exact Ed ⟨rfl,fun _=>rfl⟩
    · rw [if_neg h5,decide_eq_false h5];exact Ed ⟨rfl,fun hh=>by cases hh⟩
  simp only [if_neg h4,decide_eq_false h4,cond_false];by_cases h5:e.Kind=5
  · simp only [if_pos h5,decide_eq_true h5,cond_true];rw [if_pos (.inr h5),show w64 ((t.Nd.length:Int) - 1)=((t.Nd.length - 1:Nat):Int) by rw [Yh (by omega)];omega,Qdw (by omega),Qr,hnx,Qr];by_cases h6:t.Nm < t.Nd.length
    · rw [if_pos h6,decide_eq_true h6];exact Ed ⟨rfl,fun _=>rfl⟩
    · rw [if_neg h6,decide_eq_false h6];exact Ed ⟨rfl,fun hh=>by cases hh⟩
  simp only [if_neg h5,decide_eq_false h5,cond_false];rw [if_neg (by omega),hnx,Qr,Yr,Qr];by_cases h6:t.Nd.length=1
  · rw [if_pos h6,decide_eq_true (by omega)];exact Ed ⟨rfl,fun _=>rfl⟩
  · rw [if_neg h6,decide_eq_false (by omega)];exact Ed ⟨rfl,fun hh=>by cases hh⟩
/-! ### The beginning, copies -/
def ZS (p:Nf):Ng:=⟨ED p.Na.length 0,ED p.Nb.length ⟨[],0⟩,0⟩
theorem QAm {α:Type} (n:Nat) (z:α) (h:n<=1000):mk (n:Int) z=some (ED n z):=by
 unfold mk;rw [if_pos (by omega),Ew]
theorem Qxj {p:Nf} (h:PlantS p):Qfo p=some (ZS p):=by
 have h1:=h.sw;have h2:=h.tr;unfold Qfo;rw [QAm _ _ (by omega),Qr,QAm _ _ (by omega),Qr];rfl
theorem Qkm {p:Nf}:StateOk p (ZS p):=by
 refine ⟨by simp [ZS],by simp [ZS],fun n hn=>?_,by rfl,fun t ht=>?_,fun t ht s hs=>?_,fun t ht=>?_,fun i j hi hj _ s hs=>?_,fun t ht k hk=>?_⟩
 ·rw [(El.1 hn).2];rfl
 ·rw [(El.1 ht).2];exact .inl ⟨rfl,rfl⟩
 ·rw [(El.1 ht).2] at hs;cases hs
 ·rw [(El.1 ht).2];exact List.nodup_nil
 ·simp only [ZS,List.getElem_replicate] at hs;cases hs
 ·rw [(El.1 ht).2] at hk;simp at hk
theorem QEq (p:Nf) {x:Ng} (h:StateS x):Qii (some ⟨p,x⟩)=some x:=by
 have h1:=h.sw;have h2:=h.tr;unfold Qii;rw [Qr];show Ee (Ee (Qdh x.Na) _) _=_;rw [Qqp _ (by omega),Qr,Qr];simp only [Qr];have hl:=Qap (step:=Qih ⟨p,x⟩) (o:=x.Nb) (fun k=>((k:Int),x.Nb.take k)) x.Nb.length (fun k hk=>by
  unfold Qih;show (bif decide ((k:Int) < (x.Nb.length:Int)) then Ee (idx x.Nb (k:Int)) _ else _)=_;rw [XN hk,cond_true,Xq hk,Qr,Qqp _ (by have:=h.ch _ (Ea hk);omega),Qr,Zt (by simp;omega),Qr,Xz k (by omega)];show some (Sum.inl (_,x.Nb.take k++[x.Nb[k]]))=_;have:=Qgm x.Nb id k hk;simp only [List.map_id,id_eq] at this;rw [this]) (by
  unfold Qih;show (bif decide ((x.Nb.length:Int) < (x.Nb.length:Int)) then _ else _)=_;rw [XP,List.take_length];rfl)
 have hl2:loop (Qih ⟨p,x⟩) (0,([]:List Nl))=some x.Nb:=hl;rw [hl2];rfl
end Go.Gw

end
section
set_option maxRecDepth 4096
namespace Go.Gw
open Go
attribute [local irreducible] loop
def Qai:Ng:=⟨[],[],0⟩
def Ze (p:Nf) (x:Ng) (e:Nj):Int:=if ZF p e=0 then Qad p x e else ZF p e
def evs (p:Nf):Ng->Nat->List Nj->Ng⊕(Nat×Int)
 | x,_,[]=>.inl x
 | x,k,e::l=>if Ze p x e=0 then evs p (YR p x e) (k+1) l else .inr (k,Ze p x e)
theorem Qlc {p:Nf} {x:Ng} {k:Nat} {e:Nj} {l:List Nj}:evs p x k (e::l)=if Ze p x e=0 then evs p (YR p x e) (k+1) l else .inr (k,Ze p x e):=rfl
theorem Qrb {p:Nf} (hp:PlantOk p) {x:Ng} (h:StateOk p x) {e:Nj} (he:Ze p x e=0):ZF p e=0/\Qad p x e=0/\StateOk p (YR p x e):=by
 unfold Ze at he;by_cases h1:ZF p e=0
 ·rw [if_pos h1] at he;exact ⟨h1,he,QDn hp h h1 he⟩
 ·rw [if_neg h1] at he;exact absurd he h1
theorem Qre {p:Nf} (hp:PlantOk p):∀ (l:List Nj) {x y:Ng} {k:Nat},StateOk p x->evs p x k l=.inl y->StateOk p y
 | [],x,y,k,h,he=>by cases he;exact h
 | e::l,x,y,k,h,he=>by
  rw [Qlc] at he;by_cases h1:Ze p x e=0
  ·rw [if_pos h1] at he;exact Qre hp l (Qrb hp h h1).2.2 he
  ·rw [if_neg h1] at he;cases he
theorem QCh {p:Nf} (hS:PlantS p) (hp:PlantOk p) (l:List Nj) (hl:l.length < 1000):∀ (m:List Nj) (k:Nat) (x:Ng),m=l.drop k->k<=l.length->StateOk p x ->
  loop (Qia l p) (some ⟨p,x⟩,(k:Int))=some (match evs p x k m with | .inl y=>.inr (some ⟨p,y⟩) | .inr (i,c)=>.inl (Qai,(i:Int),c))
 | [],k,x,hm,hk,h=>by
  have:k=l.length:=by
   have:=congrArg List.length hm;simp at this;omega
  subst this;refine Qcf ?_;unfold Qia;simp only [XP];rfl
 | e::m,k,x,hm,hk,h=>by
  have hlt:k < l.length:=by
   have:=congrArg List.length hm;simp at this;omega
  rw [Ep hlt] at hm;obtain ⟨he,hm⟩:=List.cons.inj hm;have st:Qia l p (some ⟨p,x⟩,(k:Int))=if Ze p x e=0 then some (.inl (some ⟨p,YR p x e⟩,((k+1:Nat):Int))) else some (.inr (.inl (Qai,(k:Int),Ze p x e))):=by
   unfold Qia Ze;simp only [XN hlt,cond_true,Xq hlt,Qr,<-he,Qyj hS];by_cases h1:ZF p e=0
   ·rw [if_pos h1,decide_eq_true h1,cond_true];obtain ⟨r,hr,h2,h3⟩:=Qxa hp h h1;rw [hr,Qr,Qr,h2];by_cases h4:Qad p x e=0
    ·rw [if_pos h4,h3 h4,decide_eq_true h4,Xz k (by omega)];rfl
    ·rw [if_neg h4,decide_eq_false h4];rfl
   ·rw [if_neg h1,decide_eq_false h1,if_neg h1,cond_false,Qr];show (bif !decide (ZF p e=0) then _ else _)=_;rw [decide_eq_false h1];rfl
  rw [Qlc];by_cases h1:Ze p x e=0
  ·rw [if_pos h1] at st ⊢;rw [Qce st];exact QCh hS hp l hl m (k+1) _ hm (by omega) (Qrb hp h h1).2.2
  ·rw [if_neg h1] at st ⊢;exact Qcf st
def Qjc (p:Nf) (l:List Nj):Ng×Int×Int :=
 if (Y0 p).2=0 then (if l.length<=200 then (match evs p (ZS p) 0 l with | .inl y=>(y,0,0) | .inr (i,c)=>(Qai,(i:Int),c)) else (Qai,0,8)) else (Qai,0,(Y0 p).2)
theorem QUc {p:Nf} (hS:PlantS p) (l:List Nj) (hl:l.length < 1000):Qib p l=some (Qjc p l):=by
 unfold Qib Qjc;rw [Qtr hS,Qr,Yr,Qr,Zn _ (by simp),Qr,Qyr];by_cases h1:(Y0 p).2=0
 ·have hp:=Qnk h1;simp only [h1,ne_eq,not_true_eq_false,if_false,if_true];by_cases h2:l.length<=200
  ·rw [if_pos h2,decide_eq_true (show (l.length:Int)<=200 by omega)];simp only [cond_true,decide_true,Ef,cond_false];rw [Qxj hS,Qr];have:=QCh hS hp l hl l 0 (ZS p) rfl (by omega) Qkm;simp only [Eo] at this;rw [this];cases hE:evs p (ZS p) 0 l with
   | inl y =>
    simp only [Qr,Xv];rw [QEq p ((Qre hp l Qkm hE).s hp),Qr]
   | inr q=>rfl
  ·rw [if_neg h2,decide_eq_false (show ¬ (l.length:Int)<=200 by omega)];rfl
 ·simp only [h1,ne_eq,not_false_eq_true,if_true,if_false,decide_false,Eh,cond_true];rfl
end Go.Gw

end
section
set_option maxRecDepth 4096
namespace Go.Gw
open Go
attribute [local irreducible] loop
end Go.Gw

end
section
set_option maxRecDepth 4096
namespace Go.Gw
open Go
attribute [local irreducible] loop
end Go.Gw

end
section
set_option maxRecDepth 4096
namespace Go.Gw
open Go
attribute [local irreducible] loop
end Go.Gw

end
