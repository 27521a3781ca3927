/- Laws of the walk. Condition: each theorem says its own. -/
import Derived.Test.YteplgmnnkdpmeaaGreatDoorGwTopA
import Derived.Test.YteplgmnnkdpmeaaGreatDoorGwLib21
set_option linter.unusedVariables false
set_option linter.unusedSimpArgs false
set_option linter.unusedSectionVars false
section
set_option maxRecDepth 100000
namespace Go.Gw
open Go
theorem QFn:Qrk=some true:=by decide +kernel
end Go.Gw

end
section
set_option linter.unusedSectionVars false
namespace Go.Gw
section
variable {α β γ σ ρ:Type}
def Yo (p:α->Bool) (res:Nat->α->ρ):Nat->List α->ρ⊕Unit
 | _,[]=>.inr ()
 | k,x::xs=>if p x then .inl (res k x) else Yo p res (k+1) xs
theorem Y4 {step:Int->Option (Int⊕(ρ⊕Unit))} (xs:List α) (p:α->Bool) (res:Nat->α->ρ)
  (hs:∀ k (hk:k < xs.length),step (k:Int)=(bif p xs[k] then some (.inr (.inl (res k xs[k]))) else some (.inl ((k+1:Nat):Int))))
  (he:step (xs.length:Int)=some (.inr (.inr ()))):loop step 0=some (Yo p res 0 xs):=by
 have key:∀ j k,j+k=xs.length->loop step (k:Int)=some (Yo p res k (xs.drop k)):=by
  intro j
  induction j with
  | zero =>
   intro k hk;obtain rfl:k=xs.length:=by omega
   rw [List.drop_length];exact Qcz he
  | succ j ih =>
   intro k hk;have hlt:k < xs.length:=by omega
   rw [List.drop_eq_getElem_cons hlt];have:=hs k hlt;cases hp:p xs[k] with
   | true=>simp_all [Qcz,Yo,if_true]
   | false=>grind [Qcy,Yo]
 have:=key xs.length 0 (by omega);trivial

def fld (f:Nat->γ->α->γ):Nat->γ->List α->γ
 | _,a,[]=>a
 | k,a,x::xs=>fld f (k+1) (f k a x) xs
theorem Qzd {step:σ->Option (σ⊕β)} (xs:List α) (f:Nat->γ->α->γ) (S:γ->Nat->σ) (o:γ->β) (Inv:γ->Nat->Prop) (a0:γ) (h0:Inv a0 0)
  (hs:∀ k (hk:k < xs.length) a,Inv a k->step (S a k)=some (.inl (S (f k a xs[k]) (k+1)))/\Inv (f k a xs[k]) (k+1))
  (he:∀ a,Inv a xs.length->step (S a xs.length)=some (.inr (o a))):loop step (S a0 0)=some (o (fld f 0 a0 xs))/\Inv (fld f 0 a0 xs) xs.length:=by
 have key:∀ j k a,j+k=xs.length->Inv a k->loop step (S a k)=some (o (fld f k a (xs.drop k)))/\Inv (fld f k a (xs.drop k)) xs.length:=by
  intro j
  induction j with
  | zero =>
   intro k a hk hI;obtain rfl:k=xs.length:=by omega
   rw [List.drop_length];exact ⟨Qcz (he a hI),hI⟩
  | succ j ih =>
   intro k a hk hI;have hlt:k < xs.length:=by omega
   rw [List.drop_eq_getElem_cons hlt];have:=hs k hlt a hI;rw [Qcy this.1];exact ih (k+1) _ (by omega) this.2
 have:=key xs.length 0 a0 (by omega) h0;trivial

theorem XX (k:Nat) (h:k < 4611686018427387904):w64 ((k:Int)+1)=((k+1:Nat):Int):=by grind [Y8]
theorem XZ {k n:Nat} (h:k < n):decide ((k:Int) < (n:Int))=true:=by simp;omega
theorem X3 (n:Nat):decide ((n:Int) < (n:Int))=false:=by simp
end
end Go.Gw

end
section
set_option maxRecDepth 4096
namespace Go.Gw
open Go
def ZN:List Int->Int
 | []=>0
 | x::xs=>if x=0 then ZN xs else x
theorem ZM (l:List Int) (hl:l.length < 1073741824):ZO l=some (ZN l):=by
  unfold ZO;rw [Y4 l (fun x=>!decide (x=0)) (fun _ x=>x)]
  · have key : ∀ (l : List Int) k, (Xp (Yo (fun x => !decide (x = 0)) (fun _ x => x) k l) fun (_ : Unit) => some 0) = some (ZN l) := by
      intro l
      induction l with
      | nil=>intro k;rfl
      | cons x xs ih =>
        intro k;by_cases h:x=0
        · simp [Yo,ZN,h];exact ih _
        · simp [Yo,ZN,h,Xp]
    simpa using key l 0
  · intro k hk;unfold Qrt;rw [XZ hk,XD hk,XX k (by omega)];rfl
  · unfold Qrt;rw [X3];rfl
theorem YF (b:Bool) (e:Int):Ym b e=some (bif b then 0 else e):=by cases b<;>rfl
theorem Qvk (n lo hi:Int):JE n lo hi=some (decide (lo<=n)&&decide (n<=hi)):=rfl
theorem QKf (n:Int):Qfr n=some (decide (0<=n)&&decide (n<=6)):=rfl
def chk (t:Ni):Int:=Int.tmod (w64 (w64 (w64 (w64 (0+w64 (1 * w64 (t.e0+1)))+w64 (2 * w64 (t.e1+1)))+w64 (3 * w64 (t.e2+1)))+w64 (4 * w64 (t.e3+1)))) 251
theorem QGb (t:Ni):Qhs t=some (chk t):=by
 unfold Qhs;rw [loop_iff.2 ⟨5,(by rfl:Yv (Qys t) 5 (0,0)=some _)⟩];rfl
theorem QVx (t:Ni):Qnz t=some (chk t):=by
 unfold Qnz;rw [loop_iff.2 ⟨5,(by rfl:Yv (QBl t) 5 (0,0)=some _)⟩];rfl
end Go.Gw

end
section
set_option maxRecDepth 4096
namespace Go.Gw
open Go
def Qfn (n:Int):Bool:=decide (0<=n)&&decide (n<=6)
def Xz (n:Int):Bool:=decide (0<=n)&&decide (n<=250)
def XV (t:Ni):Int:=bif Xz t.e0&&(Xz t.e1&&(Xz t.e2&&(Xz t.e3&&Xz t.e4))) then (bif decide (t.e4=chk t) then (bif Qfn t.e0 then 0 else 15) else 21) else 2
theorem QFy (t:Ni):Qon [t.e0,t.e1,t.e2,t.e3,t.e4]=some (!(Xz t.e0&&(Xz t.e1&&(Xz t.e2&&(Xz t.e3&&Xz t.e4))))):=by
 have h:∀ n,Qse n=some (!Xz n):=fun n=>rfl
 have key:loop (Qdg [t.e0,t.e1,t.e2,t.e3,t.e4]) 0=some (bif Xz t.e0 then bif Xz t.e1 then bif Xz t.e2 then bif Xz t.e3 then bif Xz t.e4 then .inr () else .inl 4 else .inl 3 else .inl 2 else .inl 1 else .inl 0):=by
  refine loop_iff.2 ⟨6,?_⟩;have s0:Qdg [t.e0,t.e1,t.e2,t.e3,t.e4] 0=bif !Xz t.e0 then some (.inr (.inl 0)) else some (.inl 1):=rfl
  have s1:Qdg [t.e0,t.e1,t.e2,t.e3,t.e4] 1=bif !Xz t.e1 then some (.inr (.inl 1)) else some (.inl 2):=rfl
  have s2:Qdg [t.e0,t.e1,t.e2,t.e3,t.e4] 2=bif !Xz t.e2 then some (.inr (.inl 2)) else some (.inl 3):=rfl
  have s3:Qdg [t.e0,t.e1,t.e2,t.e3,t.e4] 3=bif !Xz t.e3 then some (.inr (.inl 3)) else some (.inl 4):=rfl
  have s4:Qdg [t.e0,t.e1,t.e2,t.e3,t.e4] 4=bif !Xz t.e4 then some (.inr (.inl 4)) else some (.inl 5):=rfl
  have s5:Qdg [t.e0,t.e1,t.e2,t.e3,t.e4] 5=some (.inr (.inr ())):=rfl;cases h0:Xz t.e0<;>cases h1:Xz t.e1<;>cases h2:Xz t.e2<;>cases h3:Xz t.e3<;>cases h4:Xz t.e4<;>simp [Yv,s0,s1,s2,s3,s4,s5,h0,h1,h2,h3,h4]
 unfold Qon Quf;rw [key];cases Xz t.e0<;>cases Xz t.e1<;>cases Xz t.e2<;>cases Xz t.e3<;>cases Xz t.e4<;>rfl
theorem QDo (t:Ni):Qfx t=some (XV t):=by
 have k1:Qfr t.e0=some (Qfn t.e0):=rfl;unfold Qfx XV;rw [QFy,QGb,k1];by_cases hc:t.e4=chk t
 all_goals cases (Xz t.e0&&(Xz t.e1&&(Xz t.e2&&(Xz t.e3&&Xz t.e4))))<;>cases Qfn t.e0<;>simp [YF,ZM,ZN,hc]
def evt (t:Ni):Nm×Int×Int:=if XV t=0 then (Nm.mk t.e0 t.e1 t.e2,t.e3,0) else (Nm.mk 0 0 0,0,XV t)
theorem QHt (t:Ni):Qlu t=some (evt t):=by
 unfold Qlu evt;rw [QDo,Qp];by_cases h:XV t=0
 ·simp [h]
 ·simp [h]
theorem QBb (t:Ni):Qgd t=some (evt t):=by
  have key:loop (Qde t) 0=some (bif (Xz t.e0&&(Xz t.e1&&(Xz t.e2&&(Xz t.e3&&Xz t.e4)))) then .inr () else .inl (Nm.mk 0 0 0,0,2)):=by
    refine loop_iff.2 ⟨6,?_⟩;have s0:Qde t 0=bif !Xz t.e0 then some (.inr (.inl (Nm.mk 0 0 0,0,2))) else some (.inl 1):=rfl
    have s1:Qde t 1=bif !Xz t.e1 then some (.inr (.inl (Nm.mk 0 0 0,0,2))) else some (.inl 2):=rfl
    have s2:Qde t 2=bif !Xz t.e2 then some (.inr (.inl (Nm.mk 0 0 0,0,2))) else some (.inl 3):=rfl
    have s3:Qde t 3=bif !Xz t.e3 then some (.inr (.inl (Nm.mk 0 0 0,0,2))) else some (.inl 4):=rfl
    have s4:Qde t 4=bif !Xz t.e4 then some (.inr (.inl (Nm.mk 0 0 0,0,2))) else some (.inl 5):=rfl
    have s5:Qde t 5=some (.inr (.inr ())):=rfl;cases h0:Xz t.e0<;>cases h1:Xz t.e1<;>cases h2:Xz t.e2<;>cases h3:Xz t.e3<;>cases h4:Xz t.e4<;>simp [Yv,s0,s1,s2,s3,s4,s5,h0,h1,h2,h3,h4]
  unfold Qgd;rw [key,QVx];have hk:Xz t.e0=true->(decide (7<=t.e0)=!Qfn t.e0):=fun h=>by
    unfold Xz at h;unfold Qfn;simp at h;by_cases h7:7<=t.e0
    · simp [h7];omega
    · simp [h7];omega
  unfold evt XV;generalize (Xz t.e1&&(Xz t.e2&&(Xz t.e3&&Xz t.e4)))=rb;by_cases hc:t.e4=chk t
  all_goals cases rb
  all_goals cases h0:Xz t.e0
  all_goals cases hkk:Qfn t.e0
  all_goals first
    | (simp [hc,Xp];done)
    | (have h7:=hk h0;rw [hkk] at h7;simp at h7;simp [hc,Xp,h7];done)
    | (have h7 := hk h0; rw [hkk] at h7; simp at h7; have h8 : ¬ (7 <= t.e0) := by omega
       simp [hc,Xp,h8];done)
end Go.Gw

end
section
set_option maxRecDepth 4096
namespace Go.Gw
open Go
attribute [local irreducible] loop
def Qbf (a b c:Ni):Option Ni:=if XV a=0/\(a=b\/a=c) then some a else if XV b=0/\(b=a\/b=c) then some b else if XV c=0/\(c=a\/c=b) then some c else none
theorem QHs (t:Ni):(evt t).2.2=XV t:=by
 unfold evt;by_cases h:XV t=0<;>simp [h]
theorem QJr:Qtz 2=some []:=by rfl
theorem QGj (x y:List Ni) (b c:Ni) (h:x++y=[b,c]):Qji [x,y]=some [b,c]:=by
 have hs:Yv (QCj [x,y]) 3 (0,0)=some 2:=by
  match x,y,h with
  | [],[b',c'],h=>rfl
  | [b'],[c'],h=>rfl
  | [b',c'],[],h=>rfl
 have h2:Yv (QCk [x,y]) 3 ([],0)=some [b,c]:=by
  match x,y,h with
  | [],[b',c'],h=>cases h;rfl
  | [b'],[c'],h=>cases h;rfl
  | [b',c'],[],h=>cases h;rfl
 unfold Qji;rw [loop_iff.2 ⟨3,hs⟩,Qp,QJr,Qp,loop_iff.2 ⟨3,h2⟩];rfl
theorem QGl (b c v:Ni):Qjj [b,c] v=some (decide (v=b)||decide (v=c)):=by
 have h:loop (Qjk [b,c] v) 0=some (bif decide (v=b) then .inl 0 else bif decide (v=c) then .inl 1 else .inr ()):=by
  refine loop_iff.2 ⟨3,?_⟩;have s0:Qjk [b,c] v 0=bif decide (v=b) then some (.inr (.inl 0)) else some (.inl 1):=rfl
  have s1:Qjk [b,c] v 1=bif decide (v=c) then some (.inr (.inl 1)) else some (.inl 2):=rfl
  have s2:Qjk [b,c] v 2=some (.inr (.inr ())):=rfl;generalize decide (v=b)=d1 at s0 ⊢;generalize decide (v=c)=d2 at s1 ⊢;cases d1<;>cases d2<;>simp [Yv,s0,s1,s2]
 unfold Qjj Qui;rw [h];cases decide (v=b)<;>cases decide (v=c)<;>rfl
noncomputable def vb (el:Ni) (l:List (List Ni)) (i:Int):Option (Int⊕((Ni×Int)⊕Unit)):=Option.bind (Qji l) fun r709=>Option.bind (Qfx el) fun r720=>Option.bind (bif (decide (r720=0)) then Qjj r709 el else some default) fun r728=>bif ((decide (r720=0))&&r728) then some (.inr (.inl (el,0))) else some (.inl (w64 (i+1)))
theorem Qvg {x y:List Ni} {b c el:Ni} {i:Int} (h:x++y=[b,c]):vb el [x,y] i=bif decide (XV el=0)&&(decide (el=b)||decide (el=c)) then some (.inr (.inl (el,0))) else some (.inl (w64 (i+1))):=by
 unfold vb;rw [QGj x y b c h,Qp,QDo,Qp,QGl];cases decide (XV el=0)<;>rfl
def Qvi (t:Ny):Ni×Int:=match Qbf t.e0 t.e1 t.e2 with
 | some x=>(x,0)
 | none=>(Ni.mk 0 0 0 0 0,12)
theorem QXj (t:Ny):Qly t=some (Qvi t):=by
 have s0:Qfq t 0=vb t.e0 [[],[t.e1,t.e2]] 0:=rfl;have s1:Qfq t 1=vb t.e1 [[t.e0],[t.e2]] 1:=rfl;have s2:Qfq t 2=vb t.e2 [[t.e0,t.e1],[]] 2:=rfl;have s3:Qfq t 3=some (.inr (.inr ())):=rfl;rw [Qvg (b:=t.e1) (c:=t.e2) rfl] at s0;rw [Qvg (b:=t.e0) (c:=t.e2) rfl] at s1;rw [Qvg (b:=t.e0) (c:=t.e1) rfl] at s2;unfold Qly Qvi Qbf;have key:loop (Qfq t) 0=some (bif decide (XV t.e0=0)&&(decide (t.e0=t.e1)||decide (t.e0=t.e2)) then .inl (t.e0,0) else bif decide (XV t.e1=0)&&(decide (t.e1=t.e0)||decide (t.e1=t.e2)) then .inl (t.e1,0) else bif decide (XV t.e2=0)&&(decide (t.e2=t.e0)||decide (t.e2=t.e1)) then .inl (t.e2,0) else .inr ()):=by
  refine loop_iff.2 ⟨4,?_⟩;generalize (decide (XV t.e0=0)&&(decide (t.e0=t.e1)||decide (t.e0=t.e2)))=d0 at s0 ⊢;generalize (decide (XV t.e1=0)&&(decide (t.e1=t.e0)||decide (t.e1=t.e2)))=d1 at s1 ⊢;generalize (decide (XV t.e2=0)&&(decide (t.e2=t.e0)||decide (t.e2=t.e1)))=d2 at s2 ⊢;have w1:w64 (0+1)=1:=rfl;have w2:w64 (1+1)=2:=rfl;have w3:w64 (2+1)=3:=rfl;rw [w1] at s0;rw [w2] at s1;rw [w3] at s2;cases d0<;>cases d1<;>cases d2<;>simp [Yv,s0,s1,s2,s3]
 rw [key];have e0:(decide (XV t.e0=0)&&(decide (t.e0=t.e1)||decide (t.e0=t.e2)))=decide (XV t.e0=0/\(t.e0=t.e1\/t.e0=t.e2)):=by simp
 have e1:(decide (XV t.e1=0)&&(decide (t.e1=t.e0)||decide (t.e1=t.e2)))=decide (XV t.e1=0/\(t.e1=t.e0\/t.e1=t.e2)):=by simp
 have e2:(decide (XV t.e2=0)&&(decide (t.e2=t.e0)||decide (t.e2=t.e1)))=decide (XV t.e2=0/\(t.e2=t.e0\/t.e2=t.e1)):=by simp
 rw [e0,e1,e2];by_cases h0:XV t.e0=0/\(t.e0=t.e1\/t.e0=t.e2)
 ·rw [decide_eq_true h0,if_pos h0];rfl
 rw [decide_eq_false h0,if_neg h0];by_cases h1:XV t.e1=0/\(t.e1=t.e0\/t.e1=t.e2)
 ·rw [decide_eq_true h1,if_pos h1];rfl
 rw [decide_eq_false h1,if_neg h1];by_cases h2:XV t.e2=0/\(t.e2=t.e0\/t.e2=t.e1)
 ·rw [decide_eq_true h2,if_pos h2];rfl
 rw [decide_eq_false h2,if_neg h2];rfl
end Go.Gw

end
section
set_option maxRecDepth 4096
namespace Go.Gw
open Go
attribute [local irreducible] loop
def Qtv (t:Ny):Ni×Bool:=match Qbf t.e0 t.e1 t.e2 with
 | some x=>(x,true)
 | none=>(Ni.mk 0 0 0 0 0,false)
theorem Qrb {f:Int->Option (Int⊕((Int⊕((Ni×Bool)⊕Unit))⊕Unit))} {x:Ni} {d0 d1 d2:Bool} (s0:f 0=bif d0 then some (.inr (.inl (.inr (.inl (x,true))))) else some (.inl 1)) (s1:f 1=bif d1 then some (.inr (.inl (.inr (.inl (x,true))))) else some (.inl 2))
  (s2:f 2=bif d2 then some (.inr (.inl (.inr (.inl (x,true))))) else some (.inl 3)) (s3:f 3=some (.inr (.inr ()))):loop f 0=some (bif d0||(d1||d2) then .inl (.inr (.inl (x,true))) else .inr ()):=by
 refine loop_iff.2 ⟨4,?_⟩;cases d0<;>cases d1<;>cases d2<;>simp [Yv,s0,s1,s2,s3]
theorem QTx (t:Ny):Qnq t=some (Qtv t):=by
  have i0:=Qrb (f:=Qgg t 0) (x:=t.e0) (d0:=false) (d1:=decide (t.e1=t.e0)) (d2:=decide (t.e2=t.e0)) rfl rfl rfl rfl;have i1:=Qrb (f:=Qgg t 1) (x:=t.e1) (d0:=decide (t.e0=t.e1)) (d1:=false) (d2:=decide (t.e2=t.e1)) rfl rfl rfl rfl;have i2:=Qrb (f:=Qgg t 2) (x:=t.e2) (d0:=decide (t.e0=t.e2)) (d1:=decide (t.e1=t.e2)) (d2:=false) rfl rfl rfl rfl
  have step : ∀ (i : Int) (x : Ni) (d : Bool) (j : Int), Qit t i = (Option.bind (Qgd x) fun r1131 => (bif (!decide (r1131.2.2 = 0)) then some (.inl j) else (Option.bind (loop (Qgg t i) 0) fun o1395 => Xp o1395 fun (_ : Unit) => some (.inl j)))) ->
      loop (Qgg t i) 0=some (bif d then .inl (.inr (.inl (x,true))) else .inr ())->Qit t i=bif decide (XV x=0)&&d then some (.inr (.inl (x,true))) else some (.inl j):=fun i x d j h1 h2=>by
    rw [h1,h2,QBb,Qp,QHs];cases decide (XV x=0)<;>cases d<;>rfl
  have s0:=step 0 t.e0 _ 1 rfl i0;have s1:=step 1 t.e1 _ 2 rfl i1;have s2:=step 2 t.e2 _ 3 rfl i2;have s3:Qit t 3=some (.inr (.inr ())):=rfl;have e0:(decide (XV t.e0=0)&&(false||(decide (t.e1=t.e0)||decide (t.e2=t.e0))))=decide (XV t.e0=0/\(t.e0=t.e1\/t.e0=t.e2)):=by simp [eq_comm]
  have e1:(decide (XV t.e1=0)&&(decide (t.e0=t.e1)||(false||decide (t.e2=t.e1))))=decide (XV t.e1=0/\(t.e1=t.e0\/t.e1=t.e2)):=by simp [eq_comm]
  have e2:(decide (XV t.e2=0)&&(decide (t.e0=t.e2)||(decide (t.e1=t.e2)||false)))=decide (XV t.e2=0/\(t.e2=t.e0\/t.e2=t.e1)):=by simp [eq_comm]
  rw [e0] at s0;rw [e1] at s1;rw [e2] at s2;unfold Qnq Qtv Qbf;have key:loop (Qit t) 0=some (bif decide (XV t.e0=0/\(t.e0=t.e1\/t.e0=t.e2)) then .inl (t.e0,true) else bif decide (XV t.e1=0/\(t.e1=t.e0\/t.e1=t.e2)) then .inl (t.e1,true) else bif decide (XV t.e2=0/\(t.e2=t.e0\/t.e2=t.e1)) then .inl (t.e2,true) else .inr ()):=by
    refine loop_iff.2 ⟨4,?_⟩;generalize decide (XV t.e0=0/\(t.e0=t.e1\/t.e0=t.e2))=d0 at s0 ⊢;generalize decide (XV t.e1=0/\(t.e1=t.e0\/t.e1=t.e2))=d1 at s1 ⊢;generalize decide (XV t.e2=0/\(t.e2=t.e0\/t.e2=t.e1))=d2 at s2 ⊢;cases d0<;>cases d1<;>cases d2<;>simp [Yv,s0,s1,s2,s3]
  rw [key];by_cases h0:XV t.e0=0/\(t.e0=t.e1\/t.e0=t.e2)
  · rw [decide_eq_true h0,if_pos h0];rfl
  rw [decide_eq_false h0,if_neg h0];by_cases h1:XV t.e1=0/\(t.e1=t.e0\/t.e1=t.e2)
  · rw [decide_eq_true h1,if_pos h1];rfl
  rw [decide_eq_false h1,if_neg h1];by_cases h2:XV t.e2=0/\(t.e2=t.e0\/t.e2=t.e1)
  · rw [decide_eq_true h2,if_pos h2];rfl
  rw [decide_eq_false h2,if_neg h2];rfl
end Go.Gw

end
section
set_option maxRecDepth 4096
namespace Go.Gw
open Go
attribute [local irreducible] loop
theorem Qel {α:Type} (p:α->Bool):∀ (l:List α) (k:Nat),(Xp (β:=Int) (Yo p (fun k _=>(k:Int)) k l) fun (_:Unit)=>some (-1))=some (match Yo p (fun k _=>(k:Int)) k l with | .inl i=>i | .inr _=>-1)
 | l,k=>by cases Yo p (fun k _=>(k:Int)) k l<;>rfl
theorem Qjm {α:Type} (p:α->Bool):∀ (l:List α) (k:Nat),decide (0<=(match Yo p (fun k _=>(k:Int)) k l with | .inl i=>i | .inr _=>(-1:Int)))=l.any p
 | [],k=>by simp [Yo]
 | x::xs,k=>by
  by_cases h:p x=true
  ·simp [Yo,h]
  ·simp only [Yo,h,List.any_cons];have:=Qjm p xs (k+1);simpa [h] using this
theorem ZW {α ρ:Type} {p:α->Bool} {res:Nat->α->ρ}:∀ (l:List α) (k:Nat),(Yo p res k l=.inr ()/\l.any p=false)\/∃ j x,Yo p res k l=.inl (res j x)/\p x=true/\l.any p=true
 | [],k=>.inl ⟨rfl,rfl⟩
 | x::xs,k=>by
  by_cases h:p x=true
  ·exact .inr ⟨k,x,by simp [Yo,h],h,by simp [h]⟩
  ·rcases ZW xs (k+1) (p:=p) (res:=res) with ⟨h1,h2⟩ | ⟨j,y,h1,h2,h3⟩
   ·exact .inl ⟨by simp [Yo,h,h1],by simp [h,h2]⟩
   ·exact .inr ⟨j,y,by simp [Yo,h,h1],h2,by simp [h3]⟩
def XM (f:Nat->Int) (n:Nat):Option Nat:=(List.range n).find? fun i=>decide (f i≠0)
theorem Qky (f:Nat->Int) (n:Nat):(XM f n=none/\∀ j,j < n->f j=0)\/∃ i,XM f n=some i/\i < n/\f i≠0/\∀ j,j < i->f j=0:=by
 cases h:XM f n with
 | none =>
  refine .inl ⟨rfl,fun j hj=>?_⟩;have:=List.find?_eq_none.1 h j (List.mem_range.2 hj);simpa using this
 | some i =>
  right;obtain ⟨h1,h2,h3⟩:=List.find?_range_eq_some.1 h;exact ⟨i,rfl,List.mem_range.1 h2,by simpa using h1,fun j hj=>by have:=h3 j hj;simpa using this⟩
theorem Qak {σ ρ μ:Type} {step:σ->Option (σ⊕(ρ⊕μ))} (S:Nat->σ) (n:Nat) (f:Nat->Int) (res:Nat->Int->ρ) (o:μ)
  (hs:∀ k,k < n->(∀ j,j < k->f j=0)->step (S k)=if f k=0 then some (.inl (S (k+1))) else some (.inr (.inl (res k (f k))))) (he:(∀ j,j < n->f j=0)->step (S n)=some (.inr (.inr o))) :
  loop step (S 0)=some (match XM f n with | some i=>.inl (res i (f i)) | none=>.inr o):=by
 rcases Qky f n with ⟨h1,h2⟩ | ⟨i,h1,h2,h3,h4⟩
 ·rw [h1];exact Qif S n (fun k hk=>by rw [hs k hk fun j hj=>h2 j (by omega),if_pos (h2 k hk)]) (he h2)
 ·rw [h1];exact Qif S i (fun k hk=>by rw [hs k (by omega) fun j hj=>h4 j (by omega),if_pos (h4 k hk)]) (by rw [hs i h2 h4,if_neg h3])
/-! ### Names -/
def Qhe (q:Int×Nat):Bool:=(!(((decide (97<=q.1))&&(decide (q.1<=122)))||((decide (65<=q.1))&&(decide (q.1<=90)))))&&((decide ((q.2:Int)=0))||((!decide (q.1=45))&&((decide (q.1 < 48))||(decide (57 < q.1)))))
def bi (s:ByteArray):List Int:=bl s
theorem Qkp (s:ByteArray):(bi s).length=s.size:=Qax s
theorem Qxx {s:ByteArray} {k:Nat} (h:k < (bi s).length):idx (α:=Int) (bl s) (k:Int)=some (bi s)[k]:=XD (xs:=bi s) h
def Qaz (s:ByteArray):Bool:=decide (1<=s.size)&&(decide (s.size<=12)&&!((bi s).zipIdx.any Qhe))
theorem QCh (s:ByteArray):s=ByteArray.mk #[]↔s.size=0:=by
 constructor
 ·intro h;subst h;rfl
 ·intro h;cases s with
  | mk d =>
   congr 1;exact Array.eq_empty_of_size_eq_zero h
theorem Qpw (s:ByteArray):Qfe s=some (Qaz s):=by
  unfold Qfe Qaz;have hlen:(bi s).zipIdx.length=s.size:=by rw [List.length_zipIdx,Qkp]
  by_cases h:1<=s.size/\s.size<=12
  · have : (decide ((s.size : Int) < 1) || decide (12 < (s.size : Int))) = false := by
      rw [decide_eq_false (by omega),decide_eq_false (by omega)];rfl
    rw [this,cond_false,Y4 (bi s).zipIdx Qhe (fun _ _=>false),Qp]
    · rcases ZW (p:=Qhe) (res:=fun _ _=>false) (bi s).zipIdx 0 with ⟨k1,k2⟩ | ⟨j,x,k1,k2,k3⟩
      · rw [k1,k2];simp [h,Xp]
      · rw [k1,k3];simp [Xp]
    · intro k hk;rw [hlen] at hk;unfold Qqa;rw [XZ hk,cond_true,Qxx (show k < (bi s).length by rw [Qkp];exact hk),Qp,XX k (by omega)];simp only [List.getElem_zipIdx,Nat.zero_add];rfl
    · rw [hlen];unfold Qqa;rw [X3];rfl
  · have : (decide ((s.size : Int) < 1) || decide (12 < (s.size : Int))) = true := by
      by_cases h1:s.size < 1
      · rw [decide_eq_true (by omega)];rfl
      · rw [decide_eq_true (p:=12 < (s.size:Int)) (by omega)];simp
    rw [this,cond_true];congr 1;by_cases h1:1<=s.size
    · rw [decide_eq_false (p:=s.size<=12) (by omega)];simp
    · rw [decide_eq_false h1];rfl
theorem Qrf (s:ByteArray) (hs:s.size<=1000):Qfs s=some (Qaz s):=by
 unfold Qfs Qaz;have hlen:(bi s).zipIdx.length=s.size:=by rw [List.length_zipIdx,Qkp]
 have ht:tob s=some (bl s):=by unfold tob;rw [if_pos (by omega)]
 rw [ht,Qp,Y4 (bi s).zipIdx Qhe (fun _ _=>false),Qp]
 ·rcases ZW (p:=Qhe) (res:=fun _ _=>false) (bi s).zipIdx 0 with ⟨k1,k2⟩ | ⟨j,x,k1,k2,k3⟩
  ·rw [k1,k2];simp only [Xp,Bool.not_false,Bool.and_true,Option.some.injEq];by_cases h0:s.size=0
   ·rw [decide_eq_true ((QCh s).2 h0),decide_eq_false (show ¬ 1<=s.size by omega)];rfl
   ·rw [decide_eq_false (fun e=>h0 ((QCh s).1 e)),decide_eq_true (show 1<=s.size by omega)];simp only [Bool.not_false,Bool.true_and];by_cases h1:s.size<=12
    ·rw [decide_eq_true h1,decide_eq_true (by omega)]
    ·rw [decide_eq_false h1,decide_eq_false (by omega)]
  ·rw [k1,k3];simp [Xp]
 ·intro k hk;rw [hlen] at hk;have hk2:k < (bl s).length:=by rw [Qax];exact hk
  unfold Qrw;rw [XZ hk2,cond_true,Qxx (show k < (bi s).length by rw [Qkp];exact hk),Qp,XX k (by omega)];simp only [List.getElem_zipIdx,Nat.zero_add];rfl
 ·rw [hlen,show (s.size:Int)=((bl s).length:Int) by rw [Qax]];unfold Qrw;rw [X3];rfl
theorem Qby (n lo hi:Int):ZY n lo hi=some (decide (lo<=n)&&decide (n<=hi)):=rfl
theorem QJp (a b:Int):ZN [a,b]=if a≠0 then a else b:=by
 unfold ZN ZN ZN;by_cases h:a=0<;>by_cases h2:b=0<;>simp [h,h2]
theorem Qfl (a b c:Int):ZN [a,b,c]=if a≠0 then a else if b≠0 then b else c:=by
 unfold ZN ZN ZN ZN;by_cases h:a=0<;>by_cases h2:b=0<;>by_cases h3:c=0<;>simp [h,h2,h3]
theorem Qqr {α:Type} [DecidableEq α]:∀ (a b:List α) (hl:a.length=b.length) (k:Nat),(Xp (Yo (fun (x:α×α)=>!decide (x.1=x.2)) (fun _ _=>false) k (a.zip b)) fun (_:Unit)=>some true)=some (decide (a=b))
 | [],[],_,k=>by simp [Yo,Xp]
 | [],_::_,hl,_=>by simp at hl
 | _::_,[],hl,_=>by simp at hl
 | x::a,y::b,hl,k=>by
  by_cases hxy:x=y
  ·subst hxy;have:=Qqr a b (by simpa using hl) (k+1);simp only [List.zip_cons_cons,Yo];simpa using this
  ·simp [Yo,hxy,Xp]
theorem Qpk {α:Type} {a b:List α} (hl:a.length=b.length):(a.zip b).length=a.length:=by simp [hl]
theorem Z3 {α:Type} (l:List α) (f:α->Int) (k:Nat) (hk:k < l.length):(l[k]?.map f).getD 0=f l[k]:=by rw [List.getElem?_eq_getElem hk];rfl
theorem Qus {α β:Type} (l:List α) (f:α->β) (k:Nat) (hk:k < l.length):(l.take k).map f++[f l[k]]=(l.take (k+1)).map f:=by
 rw [List.take_add_one,List.getElem?_eq_getElem hk,List.map_append];rfl
theorem Qpl {α β:Type} {a:List α} {b:List β} (hl:a.length=b.length):(a.zip b).length=a.length:=by simp [hl]
theorem Qct {α:Type} {xs:List α} {k:Nat} (h:k<=xs.length):cut xs 0 (k:Int)=some (xs.take k):=by
 unfold cut;rw [if_pos (by omega),Int.toNat_natCast];rfl
theorem Qwe {α:Type} [DecidableEq α] (l:List α) (v:α):(l.any fun x=>decide (v=x))=decide (v∈l):=by
 rw [Bool.eq_iff_iff];simp
theorem Qwf {α:Type} [DecidableEq α] (l:List α) (v:α):(l.any fun x=>decide (x=v))=decide (v∈l):=by
 rw [Bool.eq_iff_iff];simp
def Qay {α:Type} (p:α->Bool) (l:List α):Int:=match Yo p (fun k _=>(k:Int)) 0 l with | .inl i=>i | .inr _=>(-1:Int)
theorem Qre {α:Type} (p:α->Bool) (l:List α):decide (0<=Qay p l)=l.any p:=Qjm p l 0
theorem Qyd (l:List Int) (v:Int) (hl:l.length < 1000000):Qjl l v=some (Qay (fun x=>decide (v=x)) l):=by
 unfold Qjl Qay;rw [Y4 l (fun x=>decide (v=x)) (fun k _=>(k:Int)),Qp,Qel]
 ·intro k hk;unfold Quj;rw [XZ hk,XD hk,XX k (by omega)];rfl
 ·unfold Quj;rw [X3];rfl
theorem Qff (l:List Int) (v:Int) (hl:l.length < 1000000):Qbr l v=some (decide (v∈l)):=by
 unfold Qbr;rw [Qyd l v hl,Qp,Qre,Qwe]
end Go.Gw

end
section
set_option maxRecDepth 4096
namespace Go.Gw
open Go
attribute [local irreducible] loop
def ZP (s:ByteArray) (others:List ByteArray):Int:=bif Qaz s then (bif Zl others s then 5 else 0) else 4
def Zt (l:List ByteArray) (k:Nat):Int:=(l[k]?.map fun s=>ZP s (l.take k)).getD 0
def YD (p:Ng) (n:Int):Bool:=decide (0<=n)&&decide (n<=(p.Nd.length:Int) - 1)
def swX (p:Ng) (k:Nat) (s:Nu):Int:=bif YD p s.Nn then (bif (p.Nb.take k).any (fun o=>decide (o.Nn=s.Nn)) then 26 else 0) else 6
def swE (p:Ng) (k:Nat) (s:Nu):Int:=if ZP s.Name ((p.Nb.take k).map (·.Name))=0 then swX p k s else ZP s.Name ((p.Nb.take k).map (·.Name))
def ZS (p:Ng) (k:Nat):Int:=(p.Nb[k]?.map (swE p k)).getD 0
def rsE (p:Ng) (r:Np) (k:Nat) (s:Int):Int:=bif YD p s then (bif decide (s∈r.Nd.take k) then 26 else 0) else 6
def JM (p:Ng) (r:Np) (k:Nat):Int:=(r.Nd[k]?.map (rsE p r k)).getD 0
def J3 (r:Np) (q:Int×Nu):Bool:=bif decide (q.2.Nn∈r.Nd) then !(decide (q.1=0)||decide (q.1=1)) else !decide (q.1=-1)
def rtX (p:Ng) (r:Np):Int :=
 if r.Nd.length < 2 then 10 else if p.Nd.length < r.Nd.length then 8 else
 match XM (JM p r) r.Nd.length with
 | some i=>JM p r i
 | none=>if r.Nq.length=p.Nb.length then (bif (r.Nq.zip p.Nb).any (J3 r) then 2 else 0) else 10
def rtE (p:Ng) (k:Nat) (r:Np):Int:=if ZP r.Name ((p.Nj.take k).map (·.Name))=0 then rtX p r else ZP r.Name ((p.Nj.take k).map (·.Name))
def ZQ (p:Ng) (k:Nat):Int:=(p.Nj[k]?.map (rtE p k)).getD 0
def JK (p:Ng):Ns×Int :=
 if p.Nd.length=0\/p.Na.length=0 then (Ns.mk 0 0,10) else if 8 < p.Nd.length\/3 < p.Na.length\/4 < p.Nb.length\/10 < p.Nj.length then (Ns.mk 0 0,8) else
 match XM (Zt p.Nd) p.Nd.length with
 | some i=>(Ns.mk 1 i,Zt p.Nd i)
 | none=>match XM (Zt p.Na) p.Na.length with
  | some i=>(Ns.mk 2 i,Zt p.Na i)
  | none=>match XM (ZS p) p.Nb.length with
   | some i=>(Ns.mk 3 i,ZS p i)
   | none=>match XM (ZQ p) p.Nj.length with
    | some i=>(Ns.mk 4 i,ZQ p i)
    | none=>(Ns.mk 0 0,0)
structure PlantS (p:Ng):Prop where
 se:p.Nd.length < 1000
 tr:p.Na.length < 1000
 sw:p.Nb.length < 1000
 ro:p.Nj.length < 1000
 sn:∀ s∈p.Nd,s.size<=1000
 tn:∀ s∈p.Na,s.size<=1000
 wn:∀ s∈p.Nb,s.Name.size<=1000
 rn:∀ r∈p.Nj,r.Name.size<=1000/\r.Nd.length < 1000/\r.Nq.length < 1000
theorem Qrc {α:Type} (l:List α) (f:α->ByteArray) (k:Nat) (hk:k < l.length) (h:Zl ((l.take k).map f) (f l[k])=false):Jg ((l.take k).map f) (f l[k])=(l.take (k+1)).map f:=by
 unfold Jg;rw [h,if_neg (by simp),Qus l f k hk]
theorem Qsj (s:ByteArray) (others:List ByteArray):ZN [bif Qaz s then 0 else 4,bif !(Zl others s) then 0 else 5]=ZP s others:=by
 unfold ZP;cases Qaz s<;>cases Zl others s<;>rfl
theorem Qsk {s:ByteArray} {others:List ByteArray} (h:ZP s others=0):Zl others s=false:=by
 unfold ZP at h;cases h1:Zl others s with
 | false=>rfl
 | true=>rw [h1] at h;cases h2:Qaz s<;>rw [h2] at h<;>cases h
theorem QGo {n m:Int} (h:n≠m):decide (n=m)=false:=decide_eq_false h
theorem Qzk (l:List ByteArray) (mark:Int) (hl:l.length < 1000) (hn:∀ s∈l,s.size<=1000):Qic mark l=some (match XM (Zt l) l.length with | some i=>(Ns.mk mark i,Zt l i) | none=>(Ns.mk 0 0,0)):=by
 unfold Qic;have key:loop (Qib l mark) (0,[])=some (match XM (Zt l) l.length with | some i=>.inl (Ns.mk mark i,Zt l i) | none=>.inr ()):=by
  refine Qak (step:=Qib l mark) (fun k=>((k:Int),(l.take k).map id)) l.length (Zt l) (fun i e=>(Ns.mk mark i,e)) () (fun k hk _=>?_) (fun _=>?_)
  ·have hs:Zt l k=ZP l[k] (l.take k):=Z3 _ _ _ hk;have hi:=fun h=>Qrc l id k hk h
   simp only [List.map_id,id_eq] at hi ⊢;rw [hs];unfold Qib;simp only [XZ hk,cond_true,XD hk,Qp];rw [show Qry l[k]=some l[k] from rfl,Qp,Qrf _ (hn _ (List.getElem_mem hk)),Qp];simp only [YF,Qp];rw [ZM _ (by simp),Qp,Qsj];by_cases h:ZP l[k] (l.take k)=0
   ·rw [if_pos h,h,hi (Qsk h),XX k (by omega)];rfl
   ·rw [if_neg h,QGo h];rfl
  ·unfold Qib;simp only [X3];rfl
 rw [key,Qp];cases XM (Zt l) l.length<;>rfl
theorem QFz (l:List Nu) (s:Nu) (hl:l.length < 1000):Qom l s=some (l.any fun o=>decide (o.Nn=s.Nn)):=by
 unfold Qom Qub;rw [Y4 l (fun o=>decide (o.Nn=s.Nn)) (fun k _=>(k:Int)),Qp,Qel,Qp,Qjm]
 ·intro k hk;unfold Qua;rw [XZ hk,XD hk,XX k (by omega)];rfl
 ·unfold Qua;rw [X3];rfl
theorem QCc (p:Ng) (hp:p.Nd.length < 1000) (n:Int):JE n 0 (w64 ((p.Nd.length:Int) - 1))=some (YD p n):=by
 rw [Qvk,Y8 (by omega)];rfl
theorem QVy {p:Ng} (h:PlantS p) (k:Nat) (hk:k < p.Nb.length):Qmm p k=some (swX p k p.Nb[k]):=by
 have h1:=h.sw;unfold Qmm swX;rw [XD hk,Qp,Qct (by omega),Qp,QFz _ _ (by simp;omega),Qp,QCc p h.se,Qp,YF,Qp,YF,Qp,ZM _ (by simp),Qp];cases YD p p.Nb[k].Nn<;>cases (p.Nb.take k).any (fun o=>decide (o.Nn=p.Nb[k].Nn))<;>rfl
theorem QVz {p:Ng} (h:PlantS p):Qmg 3 p.Nb p=some (match XM (ZS p) p.Nb.length with | some i=>(Ns.mk 3 i,ZS p i) | none=>(Ns.mk 0 0,0)):=by
 have hl:=h.sw;unfold Qmg;have key:loop (Qia p p.Nb 3) (0,[])=some (match XM (ZS p) p.Nb.length with | some i=>.inl (Ns.mk 3 i,ZS p i) | none=>.inr ()):=by
  refine Qak (step:=Qia p p.Nb 3) (fun k=>((k:Int),(p.Nb.take k).map (·.Name))) p.Nb.length (ZS p) (fun i e=>(Ns.mk 3 i,e)) () (fun k hk _=>?_) (fun _=>?_)
  ·have hs:ZS p k=swE p k p.Nb[k]:=Z3 _ _ _ hk;have hi:=fun h=>Qrc p.Nb (·.Name) k hk h
   rw [hs];unfold Qia swE;simp only [XZ hk,cond_true,XD hk,Qp];rw [show Qrn p.Nb[k]=some p.Nb[k].Name from rfl,Qp,Qrf _ (h.wn _ (List.getElem_mem hk)),Qp];simp only [YF,Qp];rw [ZM _ (by simp),Qp,Qsj,show Qlr (k:Int) p=some (swX p k p.Nb[k]) by unfold Qlr;rw [QVy h k hk];rfl];by_cases h1:ZP p.Nb[k].Name ((p.Nb.take k).map (·.Name))=0
   ·simp only [h1,hi (Qsk h1),if_true,decide_true,Bool.true_and,cond_true,Qp,XX k (show k < 4611686018427387904 by omega)];by_cases h2:swX p k p.Nb[k]=0
    ·simp [h2]
    ·simp [h2]
   ·simp only [h1,if_false,decide_false,Bool.false_and,cond_false,Qp,Bool.not_false,cond_true]
  ·unfold Qia;simp only [X3];rfl
 rw [key,Qp];cases XM (ZS p) p.Nb.length<;>rfl
theorem QSy {p:Ng} (h:PlantS p) (r:Np) (hr:r.Nd.length < 1000):loop (Qmj r p) 0=some (match XM (JM p r) r.Nd.length with | some i=>.inl (JM p r i) | none=>.inr ()) :=
 Qak (fun k=>(k:Int)) r.Nd.length (JM p r) (fun _ e=>e) () (fun k hk _=>by
  have hs:JM p r k=rsE p r k r.Nd[k]:=Z3 _ _ _ hk;rw [hs];unfold Qmj rsE;rw [XZ hk,cond_true,XD hk,Qp,Qct (by omega),Qp,QCc p h.se,Qp,YF,Qp,Qff _ _ (by simp;omega),Qp,YF,Qp,ZM _ (by simp),Qp,XX k (by omega)];cases YD p r.Nd[k]<;>cases decide (r.Nd[k]∈r.Nd.take k)<;>rfl) (fun _=>by
  unfold Qmj;rw [X3];rfl)
theorem QSx {p:Ng} (r:Np) (hr:r.Nd.length < 1000) (hn:r.Nq.length < 1000) (he:r.Nq.length=p.Nb.length):loop (Qmk r p) 0=some (Yo (J3 r) (fun _ _=>(2:Int)) 0 (r.Nq.zip p.Nb)) :=
 Y4 (r.Nq.zip p.Nb) _ _ (fun k hk=>by
  rw [Qpl he] at hk;unfold Qmk;rw [XZ hk,cond_true,XD hk,Qp,XD (show k < p.Nb.length by omega),Qp,Qff _ _ (by omega),Qp,XX k (by omega)];simp only [List.getElem_zip,J3];rw [show Qft r.Nq[k]=some (decide (r.Nq[k]=0)||decide (r.Nq[k]=1)) from rfl];cases decide (p.Nb[k].Nn∈r.Nd)<;>rfl) (by
  rw [Qpl he];unfold Qmk;rw [X3];rfl)
theorem QTb {p:Ng} (h:PlantS p) (k:Nat) (hk:k < p.Nj.length):Qml p k=some (rtX p p.Nj[k]):=by
 obtain ⟨_,hr,hn⟩:=h.rn _ (List.getElem_mem hk);have h1:=h.se;have h2:=h.sw;unfold Qml rtX;rw [XD hk,Qp,YF,Qp,YF,Qp,ZM _ (by simp),Qp];generalize p.Nj[k]=r at hr hn ⊢;by_cases h3:r.Nd.length < 2
 ·rw [if_pos h3,decide_eq_false (show ¬ (2<=(r.Nd.length:Int)) by omega)];rfl
 rw [if_neg h3,decide_eq_true (show 2<=(r.Nd.length:Int) by omega)];by_cases h4:p.Nd.length < r.Nd.length
 ·rw [if_pos h4,decide_eq_false (show ¬ ((r.Nd.length:Int)<=p.Nd.length) by omega)];rfl
 rw [if_neg h4,decide_eq_true (show (r.Nd.length:Int)<=p.Nd.length by omega),QSy h r hr];simp only [ZN,cond_true,if_true,decide_true,Bool.not_true,cond_false,Qp];cases XM (JM p r) r.Nd.length with
 | some i=>rfl
 | none =>
  simp only [Xp];by_cases h5:r.Nq.length=p.Nb.length
  ·rw [if_pos h5,decide_eq_true (by omega),Bool.not_true,cond_false,QSx r hr hn h5,Qp];rcases ZW (p:=J3 r) (res:=fun _ _=>(2:Int)) (r.Nq.zip p.Nb) 0 with ⟨k1,k2⟩ | ⟨j,x,k1,k2,k3⟩
   ·rw [k1,k2];rfl
   ·rw [k1,k3];rfl
  ·rw [if_neg h5,decide_eq_false (by omega)];rfl
theorem QTn {p:Ng} (h:PlantS p):Qmf 4 p.Nj p=some (match XM (ZQ p) p.Nj.length with | some i=>(Ns.mk 4 i,ZQ p i) | none=>(Ns.mk 0 0,0)):=by
 have hl:=h.ro;unfold Qmf;have key:loop (Qhz p p.Nj 4) (0,[])=some (match XM (ZQ p) p.Nj.length with | some i=>.inl (Ns.mk 4 i,ZQ p i) | none=>.inr ()):=by
  refine Qak (step:=Qhz p p.Nj 4) (fun k=>((k:Int),(p.Nj.take k).map (·.Name))) p.Nj.length (ZQ p) (fun i e=>(Ns.mk 4 i,e)) () (fun k hk _=>?_) (fun _=>?_)
  ·have hs:ZQ p k=rtE p k p.Nj[k]:=Z3 _ _ _ hk;have hi:=fun h=>Qrc p.Nj (·.Name) k hk h
   rw [hs];unfold Qhz rtE;simp only [XZ hk,cond_true,XD hk,Qp];rw [show Qrp p.Nj[k]=some p.Nj[k].Name from rfl,Qp,Qrf _ (h.rn _ (List.getElem_mem hk)).1,Qp];simp only [YF,Qp];rw [ZM _ (by simp),Qp,Qsj,show Qls (k:Int) p=some (rtX p p.Nj[k]) by unfold Qls;rw [QTb h k hk];rfl];by_cases h1:ZP p.Nj[k].Name ((p.Nj.take k).map (·.Name))=0
   ·simp only [h1,hi (Qsk h1),if_true,decide_true,Bool.true_and,cond_true,Qp,XX k (show k < 4611686018427387904 by omega)];by_cases h2:rtX p p.Nj[k]=0
    ·simp [h2]
    ·simp [h2]
   ·simp only [h1,if_false,decide_false,Bool.false_and,cond_false,Qp,Bool.not_false,cond_true]
  ·unfold Qhz;simp only [X3];rfl
 rw [key,Qp];cases XM (ZQ p) p.Nj.length<;>rfl
theorem QGa {p:Ng} (h:PlantS p):Qlt p=some (JK p):=by
  unfold Qlt JK;rw [YF,Qp,YF,Qp,ZM _ (by simp),Qp];by_cases h1:p.Nd.length=0\/p.Na.length=0
  · rw [if_pos h1, show (decide (0 < (p.Nd.length : Int)) && decide (0 < (p.Na.length : Int))) = false by
      rcases h1 with h1 | h1
      · rw [decide_eq_false (show ¬ (0 < (p.Nd.length:Int)) by omega)];rfl
      · rw [decide_eq_false (show ¬ (0 < (p.Na.length:Int)) by omega),Bool.and_false]]
    rfl
  rw [if_neg h1,decide_eq_true (show 0 < (p.Nd.length:Int) by omega),decide_eq_true (show 0 < (p.Na.length:Int) by omega)];by_cases h2:8 < p.Nd.length\/3 < p.Na.length\/4 < p.Nb.length\/10 < p.Nj.length
  · rw [if_pos h2, show (((decide (8 < (p.Nd.length : Int)) || decide (3 < (p.Na.length : Int))) || decide (4 < (p.Nb.length : Int))) || decide (10 < (p.Nj.length : Int))) = true by
      simp only [Bool.or_eq_true,decide_eq_true_eq];omega]
    rfl
  rw [if_neg h2, show (((decide (8 < (p.Nd.length : Int)) || decide (3 < (p.Na.length : Int))) || decide (4 < (p.Nb.length : Int))) || decide (10 < (p.Nj.length : Int))) = false by
      rw [decide_eq_false (by omega),decide_eq_false (by omega),decide_eq_false (by omega),decide_eq_false (by omega)];rfl]
  unfold Qrl Qrm Qro Qrq;rw [Qzk _ _ h.se h.sn,Qzk _ _ h.tr h.tn,QVz h,QTn h];have hz:∀ {f:Nat->Int} {n i:Nat},XM f n=some i->f i≠0:=fun {f n i} hf=>by
    rcases Qky f n with ⟨k1,_⟩ | ⟨j,k1,_,k3,_⟩
    · rw [k1] at hf;cases hf
    · rw [k1] at hf;cases hf;exact k3
  simp only [Bool.true_and,Bool.not_false,cond_true,ZN,if_true,decide_true,Bool.not_true,cond_false,Qp];cases h3:XM (Zt p.Nd) p.Nd.length with
  | some i=>simp [hz h3]
  | none =>
    simp only [decide_true,Bool.not_true,cond_false];cases h4:XM (Zt p.Na) p.Na.length with
    | some i=>simp [hz h4]
    | none =>
      simp only [decide_true,Bool.not_true,cond_false];cases h5:XM (ZS p) p.Nb.length with
      | some i=>simp [hz h5]
      | none =>
        simp only [decide_true,Bool.not_true,cond_false];cases h6:XM (ZQ p) p.Nj.length with
        | some i=>simp [hz h6]
        | none=>simp
theorem QRk {p:Ng} (h:PlantS p):Qed p=some (JK p).2:=by
 unfold Qed;rw [QGa h];rfl
end Go.Gw

end
section
set_option maxRecDepth 4096
namespace Go.Gw
open Go
attribute [local irreducible] loop
theorem Qku {α:Type} {xs:List α} (h:1<=xs.length):cut xs 1 (xs.length:Int)=some (xs.drop 1):=by
 unfold cut;rw [if_pos (by omega),Int.toNat_natCast,List.take_length];rfl
structure StateS (x:Nf):Prop where
 sw:x.Nb.length < 1000
 tr:x.Na.length < 1000
 ch:∀ t∈x.Na,t.Nc.length < 1000
def X8 (x:Nf) (s:Int):Int:=Qay (fun t:Nl=>decide (s∈t.Nc)) x.Na
def Zm (x:Nf) (s:Int):Bool:=x.Na.any fun t=>decide (s∈t.Nc)
theorem Qlg (x:Nf) (s:Int):decide (0<=X8 x s)=Zm x s:=Qre _ _
theorem QJx (p:Ng) {x:Nf} (h:StateS x) (s:Int):Qmb (some ⟨p,x⟩) s=some (X8 x s):=by
 have h1:=h.tr;unfold Qmb Quc X8 Qay;rw [Qp];show (Option.bind (Option.bind (loop (Qoq s x.Na) 0) _) _)=_;rw [Y4 x.Na (fun t=>decide (s∈t.Nc)) (fun k _=>(k:Int)),Qp,Qel,Qp]
 ·intro k hk;unfold Qoq Qsa;rw [XZ hk,cond_true,XD hk,Qp,Qff _ _ (by have:=h.ch _ (List.getElem_mem hk);omega),Qp,Qp,XX k (by omega)]
 ·unfold Qoq;rw [X3];rfl
theorem Quu (p:Ng) {x:Nf} (h:StateS x) (l:List Int) (hl:l.length < 1000):Qfw (some ⟨p,x⟩) l=some (l.any (Zm x)):=by
 unfold Qfw Qty Que;rw [Y4 l (Zm x) (fun k _=>(k:Int)),Qp,Qel,Qp,Qjm]
 ·rfl
 ·intro k hk;unfold Qud Qsd;rw [XZ hk,cond_true,XD hk,Qp,QJx p h,Qp,Qp,Qlg,XX k (by omega)]
 ·unfold Qud;rw [X3];rfl
def Qec (secs:List Int) (q:Nu×(Int×Int)):Bool:=decide (q.1.Nn∈secs)&&!decide (q.2.1=q.2.2)
def YN (p:Ng) (sw:List Int) (r:Np) (secs:List Int):Bool:=!((p.Nb.zip (r.Nq.zip sw)).any (Qec secs))
theorem QVg (α:Type) (p:α->Bool) (l:List α):(Xp (Yo p (fun _ _=>false) 0 l) fun (_:Unit)=>some true)=some (!(l.any p)):=by
 rcases ZW (p:=p) (res:=fun _ _=>false) l 0 with ⟨k1,k2⟩ | ⟨j,x,k1,k2,k3⟩
 ·rw [k1,k2];rfl
 ·rw [k1,k3];rfl
theorem Qyi {p:Ng} {x:Nf} {r:Np} {secs:List Int} (h1:r.Nq.length=p.Nb.length) (h2:x.Nb.length=p.Nb.length) (h3:p.Nb.length < 1000) (hs:secs.length < 1000):Qhw (some ⟨p,x⟩) r secs=some (YN p x.Nb r secs):=by
 unfold Qhw YN;have hlen:(p.Nb.zip (r.Nq.zip x.Nb)).length=p.Nb.length:=by simp [h1,h2]
 rw [Qp,Y4 (p.Nb.zip (r.Nq.zip x.Nb)) (Qec secs) (fun _ _=>false),Qp,QVg]
 ·intro k hk;rw [hlen] at hk;unfold Qsc;rw [XZ hk,cond_true,XD hk,Qp,Qff _ _ (by omega),Qp,XX k (by omega)];simp only [Qp];rw [XD (show k < r.Nq.length by omega),XD (show k < x.Nb.length by omega)];simp only [List.getElem_zip,Qec,Qp];cases decide (p.Nb[k].Nn∈secs)<;>rfl
 ·rw [hlen];unfold Qsc;rw [X3];rfl
theorem QGe (l:List Nl) (h:l.length < 1000000):Qok l=some l:=by
 unfold Qok;rw [Qad (by simp;omega)];rfl
theorem Qqh (l:List Int) (h:l.length < 1000000):Qdf l=some l:=by
 unfold Qdf;rw [Qad (by simp;omega)];rfl
theorem Qca {α:Type} {xs:List α} {i:Int} (h0:0<=i) (h:i.toNat < xs.length):idx xs i=some xs[i.toNat]:=by
 unfold idx;rw [if_pos h0,List.getElem?_eq_getElem h]
theorem QNq (p:Ng) (x:Nf) {a:Int} (h0:0<=a) (hk:a.toNat < x.Na.length) (hl:x.Na.length < 1000) (c:List Int) (u:Int):Qcd (some ⟨p,x⟩) a c u=some (some ⟨p,⟨x.Nb,x.Na.set a.toNat ⟨c,u⟩,x.Nh⟩⟩):=by
 unfold Qcd;rw [Qp,QGe _ (by show x.Na.length < _;omega),Qp];show Option.bind (idx x.Na a) _=_;rw [Qca h0 hk,Qp]
theorem QJs (n:Nat) (h:n < 1000000):Qop (n:Int)=some []:=by
 unfold Qop;rw [decide_eq_false (show ¬ (n:Int) < 0 by omega)];simp only [cond_false,Qp,Int.natCast_zero,Int.sub_zero];rw [show w64 (0:Int)=0 from rfl,Int.sub_zero,Y8 (by omega)];by_cases h0:0 < (n:Int)
 ·rw [decide_eq_true h0,cond_true];unfold mkZ
  first
  | (rw [if_pos (by omega),Qp];unfold cut;rw [if_pos (by simp)];rfl)
  | skip
 ·rw [decide_eq_false h0];rfl
theorem QGi (a b:List Int) (ha:a.length < 1000) (hb:b.length < 1000):Qol [a,b]=some (a++b):=by
 have f0:Qgl [a,b] (0,0)=some (.inl ((a.length:Int),1)):=by
  unfold Qgl;simp only [show decide ((0:Int) < (([a,b]:List (List Int)).length:Int))=true from rfl,cond_true,show idx [a,b] (0:Int)=some a from rfl,Qp,Int.zero_add];rw [Y8 (by omega),decide_eq_false (by omega)];rfl
 have f1:Qgl [a,b] ((a.length:Int),1)=some (.inl (((a.length+b.length:Nat):Int),2)):=by
  unfold Qgl;simp only [show decide ((1:Int) < (([a,b]:List (List Int)).length:Int))=true from rfl,cond_true,show idx [a,b] (1:Int)=some b from rfl,Qp];rw [Y8 (by omega),decide_eq_false (by omega),show ((a.length:Int)+(b.length:Int))=((a.length+b.length:Nat):Int) by omega];rfl
 have f2:Qgl [a,b] (((a.length+b.length:Nat):Int),2)=some (.inr ((a.length+b.length:Nat):Int)):=rfl;have g0:Qgm [a,b] ([],0)=some (.inl (a,1)):=by
  unfold Qgm;simp only [show decide ((0:Int) < (([a,b]:List (List Int)).length:Int))=true from rfl,cond_true,show idx [a,b] (0:Int)=some a from rfl,Qp];rw [Qad (by simp;omega)];rfl
 have g1:Qgm [a,b] (a,1)=some (.inl (a++b,2)):=by
  unfold Qgm;simp only [show decide ((1:Int) < (([a,b]:List (List Int)).length:Int))=true from rfl,cond_true,show idx [a,b] (1:Int)=some b from rfl,Qp];rw [Qad (by omega)];rfl
 have g2:Qgm [a,b] (a++b,2)=some (.inr (a++b)):=rfl;unfold Qol;rw [Qcy f0,Qcy f1,Qcz f2,Qp,QJs _ (by omega),Qp,Qcy g0,Qcy g1,Qcz g2,Qp]
/-! ### Events -/
def Qao (p:Ng) (n:Int):Bool:=decide (0<=n)&&decide (n<=(p.Na.length:Int) - 1)
def Qen (p:Ng) (n:Int):Bool:=decide (0<=n)&&decide (n<=(p.Nb.length:Int) - 1)
def Qej (p:Ng) (n:Int):Bool:=decide (0<=n)&&decide (n<=(p.Nj.length:Int) - 1)
def Y1 (n:Int):Bool:=decide (n=0)||decide (n=1)
def ZL (p:Ng) (e:Nm):Int :=
 if ¬ (0<=e.Kind/\e.Kind<=6) then 15 else if e.Kind=2 then (bif Qen p e.A then (bif Y1 e.B then 0 else 2) else 6) else
 bif Qao p e.A then (if e.Kind=0 then (bif YD p e.B then 0 else 6) else if e.Kind=1 then (bif Qej p e.B then 0 else 6) else if e.B=0 then 0 else 3) else 6
theorem Qlp {n:Int} {k:Nat} (hk:k < 1000):JE n 0 (w64 ((k:Int) - 1))=some (decide (0<=n)&&decide (n<=(k:Int) - 1)):=by
 rw [Qvk,Y8 (by omega)]
theorem QCd {p:Ng} (h:PlantS p) (n:Int):Qie p n=some (bif YD p n then 0 else 6):=by
 unfold Qie;rw [Qlp h.se,Qp,YF];rfl
theorem QWz {p:Ng} (h:PlantS p) (n:Int):Qmn p n=some (bif Qao p n then 0 else 6):=by
 unfold Qmn;rw [Qlp h.tr,Qp,YF];rfl
theorem QHq {p:Ng} (h:PlantS p) (e:Nm):Qht p e=some (ZL p e):=by
  unfold Qht ZL;rw [QKf,Qp];by_cases hk:0<=e.Kind/\e.Kind<=6
  · rw [if_neg (by omega),show (decide (0<=e.Kind)&&decide (e.Kind<=6))=true by simp [hk.1,hk.2]];simp only [Bool.not_true,cond_false];by_cases h2:e.Kind=2
    · rw [if_pos h2,decide_eq_true h2,cond_true,Qlp h.sw,Qp,YF,Qp,show Qft e.B=some (Y1 e.B) from rfl,Qp,YF,Qp,ZM _ (by simp),Qp];show some (ZN [bif Qen p e.A then 0 else 6,_])=_;cases Qen p e.A<;>cases Y1 e.B<;>rfl
    · rw [if_neg h2,decide_eq_false h2,cond_false,YF,Qp,QCd h,Qp,Qlp h.ro,Qp,YF,Qp,QWz h];show (Option.bind (bif decide (e.Kind=0) then some (bif YD p e.B then 0 else 6) else bif decide (e.Kind=1) then some (bif Qej p e.B then 0 else 6) else some _) _)=_;by_cases h0:e.Kind=0
      · rw [if_pos h0,decide_eq_true h0,cond_true,Qp,Qp,ZM _ (by simp),Qp];cases Qao p e.A<;>cases YD p e.B<;>rfl
      · rw [if_neg h0,decide_eq_false h0,cond_false];by_cases h1:e.Kind=1
        · rw [if_pos h1,decide_eq_true h1,cond_true,Qp,Qp,ZM _ (by simp),Qp];cases Qao p e.A<;>cases Qej p e.B<;>rfl
        · rw [if_neg h1,decide_eq_false h1,cond_false,Qp,Qp,ZM _ (by simp),Qp];by_cases h3:e.B=0
          · rw [if_pos h3,decide_eq_true h3];cases Qao p e.A<;>rfl
          · rw [if_neg h3,decide_eq_false h3];cases Qao p e.A<;>rfl
  · rw [if_pos hk, show (decide (0 <= e.Kind) && decide (e.Kind <= 6)) = false by
      rw [Bool.and_eq_false_iff,decide_eq_false_iff_not,decide_eq_false_iff_not];omega]
    rfl
def ZH (x:Nf) (e:Nm):Nl:=x.Na[e.A.toNat]?.getD ⟨[],0⟩
def Qem (p:Ng) (e:Nm):Nu:=p.Nb[e.A.toNat]?.getD ⟨ByteArray.mk #[],0⟩
def J7 (p:Ng) (e:Nm):Np:=p.Nj[e.B.toNat]?.getD ⟨ByteArray.mk #[],[],[]⟩
def Ji (p:Ng) (x:Nf) (e:Nm):Int :=
 if e.Kind=2 then (bif Zm x (Qem p e).Nn then 17 else 0) else
 if e.Kind=0 then (if (ZH x e).Nc.length=0 then (bif Zm x e.B then 17 else 0) else 22) else
 if (ZH x e).Nc.length=0 then 22 else
 if e.Kind=1 then (if (J7 p e).Nd.head?=(ZH x e).Nc.getLast? then (bif ((J7 p e).Nd.drop 1).any (Zm x) then 17 else bif YN p x.Nb (J7 p e) (J7 p e).Nd then 0 else 13) else 23) else
 if e.Kind=4 then (if 1 < (ZH x e).Nk then 0 else 12) else
 if e.Kind=3\/e.Kind=5 then (if (ZH x e).Nk < (ZH x e).Nc.length then 0 else 12) else
 if (ZH x e).Nc.length=1 then 0 else 17
def trX (p:Ng) (t:Nl) (e:Nm):Nl :=
 if e.Kind=0 then ⟨[e.B],1⟩ else if e.Kind=1 then ⟨t.Nc++(J7 p e).Nd.drop 1,t.Nk⟩ else if e.Kind=3 then ⟨t.Nc,t.Nk+1⟩ else
 if e.Kind=4 then ⟨t.Nc.drop 1,t.Nk - 1⟩ else if e.Kind=5 then ⟨t.Nc.take (t.Nc.length - 1),t.Nk⟩ else ⟨[],0⟩
def ZF (p:Ng) (x:Nf) (e:Nm):Nf :=
 if e.Kind=2 then ⟨x.Nb.set e.A.toNat e.B,x.Na,x.Nh⟩ else ⟨x.Nb,x.Na.set e.A.toNat (trX p (ZH x e) e),x.Nh⟩
end Go.Gw

end
section
set_option maxRecDepth 4096
namespace Go.Gw
open Go
attribute [local irreducible] loop
theorem Qhp {f:Nat->Int} {n:Nat} (h:XM f n=none):∀ j,j < n->f j=0:=by
 rcases Qky f n with ⟨_,h2⟩ | ⟨i,h1,_⟩
 ·exact h2
 ·rw [h1] at h;cases h
theorem Qah {f:Nat->Int} {n i:Nat} (h:XM f n=some i):i < n/\f i≠0/\∀ j,j < i->f j=0:=by
 rcases Qky f n with ⟨h1,_⟩ | ⟨j,h1,h2,h3,h4⟩
 ·rw [h1] at h;cases h
 ·rw [h1] at h;cases h;exact ⟨h2,h3,h4⟩
theorem QJe {f:Nat->Int} {n:Nat} (h:∀ j,j < n->f j=0):XM f n=none:=by
 cases hf:XM f n with
 | none=>rfl
 | some i=>obtain ⟨h1,h2,_⟩:=Qah hf;exact absurd (h i h1) h2
theorem QAl {α:Type} {l:List α} (h:∀ k (hk:k < l.length),l[k]∉l.take k):l.Nodup:=by
 unfold List.Nodup;rw [List.pairwise_iff_getElem];intro i j hi hj hij e;refine h j hj ?_;rw [<-e];exact List.mem_take_iff_getElem.2 ⟨i,by omega,rfl⟩
theorem QQm {α:Type} {l:List α} (h:l.Nodup) {k:Nat} (hk:k < l.length):l[k]∉l.take k:=by
 intro hm;obtain ⟨i,hi,e⟩:=List.mem_take_iff_getElem.1 hm;unfold List.Nodup at h;rw [List.pairwise_iff_getElem] at h;exact h i k (by omega) hk (by omega) e
structure PlantOk (p:Ng):Prop where
 s1:1<=p.Nd.length
 s8:p.Nd.length<=8
 t1:1<=p.Na.length
 t3:p.Na.length<=3
 w4:p.Nb.length<=4
 r10:p.Nj.length<=10
 ws:∀ s∈p.Nb,YD p s.Nn=true
 r2:∀ r∈p.Nj,2<=r.Nd.length
 r8:∀ r∈p.Nj,r.Nd.length<=p.Nd.length
 rs:∀ r∈p.Nj,∀ s∈r.Nd,YD p s=true
 rd:∀ r∈p.Nj,r.Nd.Nodup
 rn:∀ r∈p.Nj,r.Nq.length=p.Nb.length
 rx:∀ r∈p.Nj,(r.Nq.zip p.Nb).any (J3 r)=false
theorem Qgh {p:Ng} {r:Np} (h:rtX p r=0):2<=r.Nd.length/\r.Nd.length<=p.Nd.length/\(∀ s∈r.Nd,YD p s=true)/\r.Nd.Nodup/\r.Nq.length=p.Nb.length/\(r.Nq.zip p.Nb).any (J3 r)=false:=by
 unfold rtX at h;by_cases h1:r.Nd.length < 2
 ·rw [if_pos h1] at h;cases h
 rw [if_neg h1] at h;by_cases h2:p.Nd.length < r.Nd.length
 ·rw [if_pos h2] at h;cases h
 rw [if_neg h2] at h;cases hf:XM (JM p r) r.Nd.length with
 | some i=>rw [hf] at h;exact absurd h (Qah hf).2.1
 | none =>
  rw [hf] at h;have hz:∀ k (hk:k < r.Nd.length),rsE p r k r.Nd[k]=0:=fun k hk=>by
   have:=Qhp hf k hk;rwa [show JM p r k=rsE p r k r.Nd[k] from Z3 _ _ _ hk] at this
  have hz2:∀ k (hk:k < r.Nd.length),YD p r.Nd[k]=true/\r.Nd[k]∉r.Nd.take k:=fun k hk=>by
   have:=hz k hk;unfold rsE at this;cases hb:YD p r.Nd[k] with
   | false=>rw [hb] at this;cases this
   | true =>
    rw [hb,cond_true] at this;refine ⟨rfl,fun hm=>?_⟩;rw [decide_eq_true hm] at this;cases this
  have h3:r.Nq.length=p.Nb.length/\(r.Nq.zip p.Nb).any (J3 r)=false:=by
   by_cases h5:r.Nq.length=p.Nb.length
   ·simp only [h5,if_true] at h;refine ⟨h5,?_⟩;cases hb:(r.Nq.zip p.Nb).any (J3 r) with
    | false=>rfl
    | true=>rw [hb] at h;cases h
   ·simp only [h5,if_false] at h;cases h
  refine ⟨by omega,by omega,fun s hs=>?_,QAl fun k hk=>(hz2 k hk).2,h3.1,h3.2⟩;obtain ⟨k,hk,rfl⟩:=List.getElem_of_mem hs;exact (hz2 k hk).1
theorem Qtb {p:Ng} (h:(JK p).2=0):PlantOk p:=by
 unfold JK at h;by_cases h1:p.Nd.length=0\/p.Na.length=0
 ·rw [if_pos h1] at h;cases h
 rw [if_neg h1] at h;by_cases h2:8 < p.Nd.length\/3 < p.Na.length\/4 < p.Nb.length\/10 < p.Nj.length
 ·rw [if_pos h2] at h;cases h
 rw [if_neg h2] at h;cases h3:XM (Zt p.Nd) p.Nd.length with
 | some i=>rw [h3] at h;exact absurd h (Qah h3).2.1
 | none =>
  rw [h3] at h;cases h4:XM (Zt p.Na) p.Na.length with
  | some i=>rw [h4] at h;exact absurd h (Qah h4).2.1
  | none =>
   rw [h4] at h;cases h5:XM (ZS p) p.Nb.length with
   | some i=>rw [h5] at h;exact absurd h (Qah h5).2.1
   | none =>
    rw [h5] at h;cases h6:XM (ZQ p) p.Nj.length with
    | some i=>rw [h6] at h;exact absurd h (Qah h6).2.1
    | none =>
     have hr:∀ r∈p.Nj,rtX p r=0:=fun r hr=>by
      obtain ⟨k,hk,rfl⟩:=List.getElem_of_mem hr;have:=Qhp h6 k hk;rw [show ZQ p k=rtE p k p.Nj[k] from Z3 _ _ _ hk] at this;unfold rtE at this;by_cases hn:ZP p.Nj[k].Name ((p.Nj.take k).map (·.Name))=0
      ·rwa [if_pos hn] at this
      ·rw [if_neg hn] at this;exact absurd this hn
     refine ⟨by omega,by omega,by omega,by omega,by omega,by omega,fun s hs=>?_,fun r h=>(Qgh (hr r h)).1,fun r h=>(Qgh (hr r h)).2.1,fun r h=>(Qgh (hr r h)).2.2.1,fun r h=>(Qgh (hr r h)).2.2.2.1,fun r h=>(Qgh (hr r h)).2.2.2.2.1,fun r h=>(Qgh (hr r h)).2.2.2.2.2⟩;obtain ⟨k,hk,rfl⟩:=List.getElem_of_mem hs;have:=Qhp h5 k hk;rw [show ZS p k=swE p k p.Nb[k] from Z3 _ _ _ hk] at this;unfold swE at this;by_cases hn:ZP p.Nb[k].Name ((p.Nb.take k).map (·.Name))=0
     ·rw [if_pos hn] at this;unfold swX at this;cases hb:YD p p.Nb[k].Nn with
      | true=>rfl
      | false=>rw [hb] at this;cases this
     ·rw [if_neg hn] at this;exact absurd this hn
def Z8 (r:Np) (a b:Int):Bool:=(r.Nd.zip (r.Nd.drop 1)).any fun q=>decide (q.1=a)&&decide (q.2=b)
def J2 (p:Ng) (sw:List Int) (a b:Int):Bool:=p.Nj.any fun r=>Z8 r a b&&YN p sw r [a,b]
theorem pairB_iff {r:Np} {a b:Int}:Z8 r a b=true↔∃ k,∃ hk:k+1 < r.Nd.length,r.Nd[k]=a/\r.Nd[k+1]=b:=by
 unfold Z8;rw [List.any_eq_true];constructor
 ·rintro ⟨q,hq,h⟩;obtain ⟨k,hk,rfl⟩:=List.getElem_of_mem hq;simp only [List.length_zip,List.length_drop] at hk;simp only [List.getElem_zip,List.getElem_drop,Bool.and_eq_true,decide_eq_true_eq] at h;refine ⟨k,by omega,h.1,?_⟩;rw [<-h.2];congr 1;omega
 ·rintro ⟨k,hk,h1,h2⟩;refine ⟨(r.Nd[k],r.Nd[k+1]),?_,by simp [h1,h2]⟩;rw [List.mem_iff_getElem];refine ⟨k,by simp only [List.length_zip,List.length_drop];omega,?_⟩;simp only [List.getElem_zip,List.getElem_drop,Prod.mk.injEq,true_and];congr 1;omega
structure StateOk (p:Ng) (x:Nf):Prop where
 sw:x.Nb.length=p.Nb.length
 tr:x.Na.length=p.Na.length
 pos:∀ n∈x.Nb,Y1 n=true
 cnt:Xz x.Nh=true
 un:∀ t∈x.Na,(t.Nc=[]/\t.Nk=0)\/(1<=t.Nk/\t.Nk<=t.Nc.length)
 sc:∀ t∈x.Na,∀ s∈t.Nc,YD p s=true
 nd:∀ t∈x.Na,t.Nc.Nodup
 dj:∀ i j (hi:i < x.Na.length) (hj:j < x.Na.length),i≠j->∀ s∈x.Na[i].Nc,s∉x.Na[j].Nc
 ld:∀ t∈x.Na,∀ k (hk:k+1 < t.Nc.length),J2 p x.Nb t.Nc[k] t.Nc[k+1]=true
theorem QAk:∀ (n:Nat) (l:List Int),l.Nodup->(∀ s∈l,0<=s/\s < (n:Int))->l.length<=n
  | 0,l,_,h=>by
    cases l with
    | nil=>simp
    | cons x xs=>have:=h x (by simp);omega
  | n+1,l,hn,h=>by
    have h1:=QAk n (l.filter fun s=>decide (s≠(n:Int))) (hn.filter _) fun s hs=>by
      rw [List.mem_filter] at hs;have:=h s hs.1;have:=hs.2;simp at this;omega
    have h2:l.length<=(l.filter fun s=>decide (s≠(n:Int))).length+1:=by
      clear h h1
      induction l with
      | nil=>simp
      | cons x xs ih =>
        rw [List.nodup_cons] at hn;by_cases hx:x=(n:Int)
        · have : xs.filter (fun s => decide (s ≠ (n : Int))) = xs := by
            rw [List.filter_eq_self];intro a ha;simp only [ne_eq,decide_not,Bool.not_eq_true',decide_eq_false_iff_not];intro e;subst hx;subst e;exact hn.1 ha
          rw [List.filter_cons_of_neg (by simp [hx]),this];simp
        · rw [List.filter_cons_of_pos (by simp [hx])];have:=ih hn.2;simp only [List.length_cons];omega
    omega
theorem StateOk.len {p:Ng} {x:Nf} (h:StateOk p x) {t:Nl} (ht:t∈x.Na):t.Nc.length<=p.Nd.length :=
 QAk _ _ (h.nd t ht) fun s hs=>by
  have:=h.sc t ht s hs;unfold YD at this;simp at this;omega
theorem StateOk.s {p:Ng} (hp:PlantOk p) {x:Nf} (h:StateOk p x):StateS x :=
 ⟨by have:=h.sw;have:=hp.w4;omega,by have:=h.tr;have:=hp.t3;omega,fun t ht=>by have:=h.len ht;have:=hp.s8;omega⟩
end Go.Gw

end
section
set_option maxRecDepth 4096
namespace Go.Gw
open Go
attribute [local irreducible] loop
theorem liesB_iff {p:Ng} {sw:List Int} {r:Np} {secs:List Int}:YN p sw r secs=true↔∀ k (h1:k < p.Nb.length) (h2:k < r.Nq.length) (h3:k < sw.length),p.Nb[k].Nn∈secs->r.Nq[k]=sw[k]:=by
  unfold YN;rw [Bool.not_eq_true',List.any_eq_false];constructor
  · intro h k h1 h2 h3 hm;have:=h (p.Nb[k],(r.Nq[k],sw[k])) (by
      rw [List.mem_iff_getElem];exact ⟨k,by simp only [List.length_zip];omega,by simp only [List.getElem_zip]⟩)
    simp only [Qec,hm,decide_true,Bool.true_and,Bool.not_eq_true',decide_eq_false_iff_not,Decidable.not_not] at this;exact this
  · intro h q hq;obtain ⟨k,hk,rfl⟩:=List.getElem_of_mem hq;simp only [List.length_zip] at hk;simp only [List.getElem_zip,Qec,Bool.and_eq_true,decide_eq_true_eq,Bool.not_eq_true',decide_eq_false_iff_not,not_and,Decidable.not_not];exact fun hm=>h k (by omega) (by omega) (by omega) hm
theorem QKy {p:Ng} {sw:List Int} {r:Np} {a b:List Int} (h:YN p sw r a=true) (hs:∀ s∈b,s∈a):YN p sw r b=true :=
 liesB_iff.2 fun k h1 h2 h3 hm=>liesB_iff.1 h k h1 h2 h3 (hs _ hm)
theorem QKz {p:Ng} {sw:List Int} {r:Np} {a:List Int} {i:Nat} {v:Int} (hi:∀ h:i < p.Nb.length,p.Nb[i].Nn∉a) (h:YN p sw r a=true):YN p (sw.set i v) r a=true :=
 liesB_iff.2 fun k h1 h2 h3 hm=>by
  have hne:i≠k:=fun e=>by subst e;exact hi h1 hm
  rw [List.getElem_set_ne hne];exact liesB_iff.1 h k h1 h2 (by simpa using h3) hm
theorem leadsB_iff {p:Ng} {sw:List Int} {a b:Int}:J2 p sw a b=true↔∃ r∈p.Nj,Z8 r a b=true/\YN p sw r [a,b]=true:=by
 unfold J2;rw [List.any_eq_true];simp only [Bool.and_eq_true]
theorem Qut {x:Nf} {s:Int} (h:Zm x s=false):∀ t∈x.Na,s∉t.Nc:=by
 unfold Zm at h;rw [List.any_eq_false] at h;intro t ht hm;exact h t ht (decide_eq_true hm)
theorem Qgk {p:Ng} {x:Nf} (h:StateOk p x) {a:Nat} (ha:a < x.Na.length) {t:Nl} (h1:(t.Nc=[]/\t.Nk=0)\/(1<=t.Nk/\t.Nk<=t.Nc.length)) (h2:∀ s∈t.Nc,YD p s=true) (h3:t.Nc.Nodup)
  (h4:∀ j (hj:j < x.Na.length),j≠a->∀ s∈t.Nc,s∉x.Na[j].Nc) (h5:∀ k (hk:k+1 < t.Nc.length),J2 p x.Nb t.Nc[k] t.Nc[k+1]=true):StateOk p ⟨x.Nb,x.Na.set a t,x.Nh⟩:=by
 have hm:∀ u∈x.Na.set a t,u=t\/u∈x.Na:=fun u hu=>by
  rcases List.mem_or_eq_of_mem_set hu with h | h
  ·exact .inr h
  ·exact .inl h
 refine ⟨h.sw,by simpa using h.tr,h.pos,h.cnt,fun u hu=>?_,fun u hu=>?_,fun u hu=>?_,fun i j hi hj hij s hs=>?_,fun u hu=>?_⟩
 ·rcases hm u hu with rfl | hu
  ·exact h1
  ·exact h.un u hu
 ·rcases hm u hu with rfl | hu
  ·exact h2
  ·exact h.sc u hu
 ·rcases hm u hu with rfl | hu
  ·exact h3
  ·exact h.nd u hu
 ·simp only [List.length_set] at hi hj;simp only [List.getElem_set] at hs ⊢;by_cases h6:a=i
  ·rw [if_pos h6] at hs;rw [if_neg (by omega)];exact h4 j hj (by omega) s hs
  ·rw [if_neg h6] at hs;by_cases h7:a=j
   ·rw [if_pos h7];exact fun hm=>h4 i hi (by omega) s hm hs
   ·rw [if_neg h7];exact h.dj i j hi hj hij s hs
 ·rcases hm u hu with rfl | hu
  ·exact h5
  ·exact h.ld u hu
theorem Qho {p:Ng} {e:Nm} (h:ZL p e=0):0<=e.Kind/\e.Kind<=6:=by
 unfold ZL at h;by_cases h1:¬ (0<=e.Kind/\e.Kind<=6)
 ·rw [if_pos h1] at h;cases h
 ·omega
theorem Qqu {p:Ng} {e:Nm} (h:ZL p e=0) (hk:e.Kind=2):0<=e.A/\e.A.toNat < p.Nb.length/\Y1 e.B=true:=by
 have h1:=Qho h;unfold ZL at h;rw [if_neg (by omega),if_pos hk] at h;cases hb:Qen p e.A with
 | false=>rw [hb] at h;cases h
 | true =>
  rw [hb] at h;cases hc:Y1 e.B with
  | false=>rw [hc] at h;cases h
  | true =>
   unfold Qen at hb;simp at hb;exact ⟨hb.1,by omega,rfl⟩
theorem Qqt {p:Ng} {e:Nm} (h:ZL p e=0) (hk:e.Kind≠2):0<=e.A/\e.A.toNat < p.Na.length/\(e.Kind=0->YD p e.B=true)/\(e.Kind=1->0<=e.B/\e.B.toNat < p.Nj.length)/\(e.Kind≠0->e.Kind≠1->e.B=0):=by
 have h1:=Qho h;unfold ZL at h;rw [if_neg (by omega),if_neg hk] at h;cases hb:Qao p e.A with
 | false=>rw [hb] at h;cases h
 | true =>
  rw [hb,cond_true] at h;unfold Qao at hb;simp at hb;refine ⟨hb.1,by omega,fun h0=>?_,fun h0=>?_,fun h0 h2=>?_⟩
  ·rw [if_pos h0] at h;cases hc:YD p e.B with
   | true=>rfl
   | false=>rw [hc] at h;cases h
  ·rw [if_neg (by omega),if_pos h0] at h;cases hc:Qej p e.B with
   | false=>rw [hc] at h;cases h
   | true=>unfold Qej at hc;simp at hc;omega
  ·rw [if_neg h0,if_neg h2] at h;by_cases h3:e.B=0
   ·exact h3
   ·rw [if_neg h3] at h;cases h
theorem Qgs {x:Nf} {e:Nm} (h:e.A.toNat < x.Na.length):ZH x e=x.Na[e.A.toNat]:=by
 unfold ZH;rw [List.getElem?_eq_getElem h];rfl
theorem Qur {p:Ng} {e:Nm} (h:e.A.toNat < p.Nb.length):Qem p e=p.Nb[e.A.toNat]:=by
 unfold Qem;rw [List.getElem?_eq_getElem h];rfl
theorem Qiy {p:Ng} {e:Nm} (h:e.B.toNat < p.Nj.length):J7 p e=p.Nj[e.B.toNat]:=by
 unfold J7;rw [List.getElem?_eq_getElem h];rfl
theorem QCu {p:Ng} (hp:PlantOk p) {x:Nf} (h:StateOk p x) {e:Nm} (he:ZL p e=0) (hs:Ji p x e=0):StateOk p (ZF p x e):=by
  have hk:=Qho he;unfold ZF;by_cases h2:e.Kind=2
  · rw [if_pos h2];obtain ⟨a0,a1,a2⟩:=Qqu he h2;unfold Ji at hs;rw [if_pos h2] at hs;have hn:Zm x (Qem p e).Nn=false:=by
      cases hb:Zm x (Qem p e).Nn with
      | false=>rfl
      | true=>rw [hb] at hs;cases hs
    rw [Qur a1] at hn;refine ⟨by simpa using h.sw,h.tr,fun n hn=>?_,h.cnt,h.un,h.sc,h.nd,h.dj,fun t ht k hk=>?_⟩
    · rcases List.mem_or_eq_of_mem_set hn with h3 | rfl
      · exact h.pos n h3
      · exact a2
    · obtain ⟨r,hr,h3,h4⟩:=leadsB_iff.1 (h.ld t ht k hk);refine leadsB_iff.2 ⟨r,hr,h3,QKz (fun hi hm=>?_) h4⟩;have h5:=Qut hn t ht;rcases List.mem_cons.1 hm with e1 | hm
      · rw [e1] at h5;exact h5 (List.getElem_mem _)
      · rw [List.mem_singleton.1 hm] at h5;exact h5 (List.getElem_mem _)
  rw [if_neg h2];obtain ⟨a0,a1,a2,a3,a4⟩:=Qqt he h2;have ha:e.A.toNat < x.Na.length:=by rw [h.tr];exact a1
  have ht:ZH x e∈x.Na:=by rw [Qgs ha];exact List.getElem_mem ha
  have hd:∀ j (hj:j < x.Na.length),j≠e.A.toNat->∀ s∈(ZH x e).Nc,s∉x.Na[j].Nc:=fun j hj hne s hs=>by
    rw [Qgs ha] at hs;exact h.dj _ j ha hj (by omega) s hs
  have hu:=h.un _ ht;have hsc:=h.sc _ ht;have hnd:=h.nd _ ht;have hld:=h.ld _ ht;unfold Ji at hs;rw [if_neg h2] at hs;unfold trX;generalize ZH x e=t at *
  by_cases h0:e.Kind=0
  · rw [if_pos h0] at hs;rw [if_pos h0];by_cases hc:t.Nc.length=0
    · rw [if_pos hc] at hs;have hn:Zm x e.B=false:=by
        cases hb:Zm x e.B with
        | false=>rfl
        | true=>rw [hb] at hs;cases hs
      refine Qgk h ha (.inr (by simp)) (fun s hs=>?_) (by simp) (fun j hj hne s hs hm=>?_) (fun k hk=>?_)
      · simp only [List.mem_singleton] at hs;subst hs;exact a2 h0
      · simp only [List.mem_singleton] at hs;subst hs;exact Qut hn _ (List.getElem_mem hj) hm
      · simp at hk
    · rw [if_neg hc] at hs;cases hs
  rw [if_neg h0] at hs;rw [if_neg h0];by_cases hc:t.Nc.length=0
  · rw [if_pos hc] at hs;cases hs
  rw [if_neg hc] at hs;have hu2:1<=t.Nk/\t.Nk<=t.Nc.length:=by
    rcases hu with ⟨h3,_⟩ | h3
    · rw [h3] at hc;exact absurd rfl hc
    · exact h3
  by_cases h1:e.Kind=1
  · rw [if_pos h1] at hs;rw [if_pos h1];obtain ⟨b0,b1⟩:=a3 h1;have hr:J7 p e∈p.Nj:=by rw [Qiy b1];exact List.getElem_mem b1
    generalize J7 p e=r at *
    by_cases h3:r.Nd.head?=t.Nc.getLast?
    · rw [if_pos h3] at hs;have hn:(r.Nd.drop 1).any (Zm x)=false:=by
        cases hb:(r.Nd.drop 1).any (Zm x) with
        | false=>rfl
        | true=>rw [hb] at hs;cases hs
      have hl:YN p x.Nb r r.Nd=true:=by
        rw [hn] at hs;cases hb:YN p x.Nb r r.Nd with
        | true=>rfl
        | false=>rw [hb] at hs;cases hs
      rw [List.any_eq_false] at hn;have hn2:∀ s∈r.Nd.drop 1,∀ u∈x.Na,s∉u.Nc:=fun s hs=>Qut (by have:=hn s hs;simpa using this)
      have h2r:=hp.r2 r hr;have hlast:∀ hi:t.Nc.length - 1 < t.Nc.length,∀ hj:0 < r.Nd.length,t.Nc[t.Nc.length - 1]=r.Nd[0]:=fun hi hj=>by
        rw [List.head?_eq_getElem?,List.getLast?_eq_getElem?,List.getElem?_eq_getElem hj,List.getElem?_eq_getElem hi] at h3;exact (Option.some.inj h3).symm
      refine Qgk h ha (.inr ?_) (fun s hs=>?_) ?_ (fun j hj hne s hs=>?_) (fun k hk=>?_)
      · simp only [List.length_append];omega
      · rcases List.mem_append.1 hs with h4 | h4
        · exact hsc s h4
        · exact hp.rs r hr s (List.mem_of_mem_drop h4)
      · show (t.Nc++r.Nd.drop 1).Nodup;rw [List.nodup_append];refine ⟨hnd,List.Nodup.sublist (List.drop_sublist _ _) (hp.rd r hr),fun s hs u hu e=>?_⟩;subst e;exact hn2 s hu t ht hs
      · rcases List.mem_append.1 hs with h4 | h4
        · exact hd j hj hne s h4
        · exact hn2 s h4 _ (List.getElem_mem hj)
      · simp only [List.length_append,List.length_drop] at hk;by_cases h5:k+1 < t.Nc.length
        · simp only [List.getElem_append,h5,dif_pos,show k < t.Nc.length by omega];exact hld k h5
        · have e2 : (t.Nc ++ r.Nd.drop 1)[k + 1]'(by simp only [List.length_append, List.length_drop]; omega) = r.Nd[k + 1 - t.Nc.length + 1]'(by omega) := by
            rw [List.getElem_append_right (by omega),List.getElem_drop];congr 1;omega
          have e1:(t.Nc++r.Nd.drop 1)[k]'(by simp only [List.length_append, List.length_drop];omega)=r.Nd[k+1 - t.Nc.length]'(by omega) := by
            by_cases h6:k+1=t.Nc.length
            · rw [List.getElem_append_left (show k < t.Nc.length by omega)];have:=hlast (by omega) (by omega);simp only [show k+1 - t.Nc.length=0 by omega,<-this];congr 1;omega
            · rw [List.getElem_append_right (by omega),List.getElem_drop];congr 1;omega
          rw [e1,e2];refine leadsB_iff.2 ⟨r,hr,pairB_iff.2 ⟨k+1 - t.Nc.length,by omega,rfl,rfl⟩,QKy hl fun s hs=>?_⟩;rcases List.mem_cons.1 hs with rfl | hs
          · exact List.getElem_mem _
          · rw [List.mem_singleton.1 hs];exact List.getElem_mem _
    · rw [if_neg h3] at hs;cases hs
  rw [if_neg h1] at hs;rw [if_neg h1];by_cases h4:e.Kind=4
  · rw [if_pos h4] at hs;rw [if_neg (by omega),if_pos h4];have hx:1 < t.Nk:=by
      by_cases h5:1 < t.Nk
      · exact h5
      · rw [if_neg h5] at hs;cases hs
    refine Qgk h ha (.inr ?_) (fun s hs=>hsc s (List.mem_of_mem_drop hs)) (List.Nodup.sublist (List.drop_sublist _ _) hnd) (fun j hj hne s hs=>hd j hj hne s (List.mem_of_mem_drop hs)) (fun k hk=>?_)
    · simp only [List.length_drop];omega
    · simp only [List.length_drop] at hk;simp only [List.getElem_drop];have:=hld (1+k) (by omega);exact this
  rw [if_neg h4] at hs;rw [show (if e.Kind=4 then (⟨t.Nc.drop 1,t.Nk - 1⟩:Nl) else if e.Kind=5 then ⟨t.Nc.take (t.Nc.length - 1),t.Nk⟩ else ⟨[],0⟩)=(if e.Kind=5 then ⟨t.Nc.take (t.Nc.length - 1),t.Nk⟩ else ⟨[],0⟩) from if_neg h4];by_cases h35:e.Kind=3\/e.Kind=5
  · rw [if_pos h35] at hs;have hx:t.Nk < t.Nc.length:=by
      by_cases h5:t.Nk < t.Nc.length
      · exact h5
      · rw [if_neg h5] at hs;cases hs
    by_cases h3:e.Kind=3
    · rw [if_pos h3];exact Qgk h ha (.inr ⟨by show 1<=t.Nk+1;omega,by show t.Nk+1<=(t.Nc.length:Int);omega⟩) hsc hnd hd hld
    · rw [if_neg h3,if_pos (by omega)];refine Qgk h ha (.inr ?_) (fun s hs=>hsc s (List.mem_of_mem_take hs)) (List.Nodup.sublist (List.take_sublist _ _) hnd) (fun j hj hne s hs=>hd j hj hne s (List.mem_of_mem_take hs)) (fun k hk=>?_)
      · simp only [List.length_take];omega
      · simp only [List.length_take] at hk;simp only [List.getElem_take];exact hld k (by omega)
  · rw [if_neg (by omega),if_neg (by omega)];exact Qgk h ha (.inl ⟨rfl,rfl⟩) (fun s hs=>by simp at hs) (by simp) (fun j hj hne s hs=>by simp at hs) (fun k hk=>by simp at hk)
end Go.Gw

end
section
set_option maxRecDepth 4096
namespace Go.Gw
open Go
attribute [local irreducible] loop
def chE (p:Ng) (x:Nf) (n:Nat) (t:Nl) (k:Nat) (s:Int):Int :=
 bif YD p s then (bif decide (s∈t.Nc.take k)||(x.Na.take n).any (fun o=>decide (s∈o.Nc)) then 17 else if k=0 then 0 else bif J2 p x.Nb (t.Nc[k - 1]?.getD 0) s then 0 else 23) else 6
def Jq (p:Ng) (x:Nf) (n:Nat) (t:Nl) (k:Nat):Int:=(t.Nc[k]?.map (chE p x n t k)).getD 0
def J9 (t:Nl):Bool:=if t.Nc.length=0 then decide (t.Nk=0) else decide (1<=t.Nk)&&decide (t.Nk<=t.Nc.length)
def tsE (p:Ng) (x:Nf) (n:Nat) (t:Nl):Int:=bif J9 t then (match XM (Jq p x n t) t.Nc.length with | some k=>Jq p x n t k | none=>0) else 3
def JP (p:Ng) (x:Nf) (n:Nat):Int:=(x.Na[n]?.map (tsE p x n)).getD 0
def Qgn (p:Ng) (x:Nf):Int :=
 if x.Nb.length=p.Nb.length/\x.Na.length=p.Na.length then
  (bif x.Nb.all Y1&&Xz x.Nh then (match XM (JP p x) x.Na.length with | some k=>JP p x k | none=>0) else 2) else 10
theorem tsE_zero {p:Ng} {x:Nf} {n:Nat} {t:Nl}:tsE p x n t=0↔J9 t=true/\∀ k (hk:k < t.Nc.length),chE p x n t k t.Nc[k]=0:=by
 unfold tsE;cases hu:J9 t with
 | false=>simp
 | true =>
  simp only [cond_true,true_and];have hg:∀ k (hk:k < t.Nc.length),Jq p x n t k=chE p x n t k t.Nc[k]:=fun k hk=>Z3 _ _ _ hk
  cases hf:XM (Jq p x n t) t.Nc.length with
  | some k =>
   obtain ⟨h1,h2,_⟩:=Qah hf;constructor
   ·intro h;exact absurd h h2
   ·intro h;exact absurd ((hg k h1).trans (h k h1)) h2
  | none=>exact ⟨fun _ k hk=>(hg k hk).symm.trans (Qhp hf k hk),fun _=>rfl⟩
theorem chE_zero {p:Ng} {x:Nf} {n:Nat} {t:Nl} {k:Nat} {s:Int}:chE p x n t k s=0↔YD p s=true/\s∉t.Nc.take k/\(∀ o∈x.Na.take n,s∉o.Nc)/\(k≠0->J2 p x.Nb (t.Nc[k - 1]?.getD 0) s=true):=by
  unfold chE;cases YD p s with
  | false=>simp
  | true =>
    simp only [cond_true,true_and];by_cases h1:s∈t.Nc.take k
    · simp [h1]
    by_cases h2:∀ o∈x.Na.take n,s∉o.Nc
    · have h3 : (x.Na.take n).any (fun o => decide (s ∈ o.Nc)) = false := by
        rw [List.any_eq_false];intro o ho hm;exact h2 o ho (of_decide_eq_true hm)
      rw [h3,decide_eq_false h1];by_cases hk:k=0
      · simp [hk];exact h2
      · simp only [Bool.or_false,cond_false,if_neg hk];cases J2 p x.Nb (t.Nc[k - 1]?.getD 0) s with
        | false=>simp [hk]
        | true=>simp [h1];exact h2
    · have h3 : (x.Na.take n).any (fun o => decide (s ∈ o.Nc)) = true := by
        cases hb:(x.Na.take n).any (fun o=>decide (s∈o.Nc)) with
        | true=>rfl
        | false =>
          rw [List.any_eq_false] at hb;exact absurd (fun o ho hm=>hb o ho (decide_eq_true hm)) h2
      rw [h3,Bool.or_true];simp [h2]
theorem undB_iff {t:Nl}:J9 t=true↔(t.Nc=[]/\t.Nk=0)\/(1<=t.Nk/\t.Nk<=t.Nc.length):=by
 unfold J9;by_cases h:t.Nc.length=0
 ·rw [if_pos h];have h2:t.Nc=[]:=List.length_eq_zero_iff.1 h;simp only [decide_eq_true_eq];constructor
  ·intro h3;exact .inl ⟨h2,h3⟩
  ·rintro (h3 | h3)
   ·exact h3.2
   ·omega
 ·rw [if_neg h];simp only [Bool.and_eq_true,decide_eq_true_eq];constructor
  ·intro h3;exact .inr h3
  ·rintro (h3 | h3)
   ·rw [h3.1] at h;exact absurd rfl h
   ·exact h3
theorem state_iff {p:Ng} {x:Nf}:Qgn p x=0↔StateOk p x:=by
  have hg:∀ k (hk:k < x.Na.length),JP p x k=tsE p x k x.Na[k]:=fun k hk=>Z3 _ _ _ hk
  unfold Qgn;constructor
  · intro h;by_cases h1:x.Nb.length=p.Nb.length/\x.Na.length=p.Na.length
    · rw [if_pos h1] at h;cases h2:x.Nb.all Y1&&Xz x.Nh with
      | false=>rw [h2] at h;cases h
      | true =>
        rw [h2,cond_true] at h;rw [Bool.and_eq_true,List.all_eq_true] at h2;cases hf:XM (JP p x) x.Na.length with
        | some k=>rw [hf] at h;exact absurd h (Qah hf).2.1
        | none =>
          have hz:∀ n (hn:n < x.Na.length),J9 x.Na[n]=true/\∀ k (hk:k < x.Na[n].Nc.length),chE p x n x.Na[n] k x.Na[n].Nc[k]=0:=fun n hn=>tsE_zero.1 ((hg n hn).symm.trans (Qhp hf n hn))
          refine ⟨h1.1,h1.2,h2.1,h2.2,fun t ht=>?_,fun t ht s hs=>?_,fun t ht=>?_,fun i j hi hj hij s hs hm=>?_,fun t ht k hk=>?_⟩
          · obtain ⟨n,hn,rfl⟩:=List.getElem_of_mem ht;exact undB_iff.1 (hz n hn).1
          · obtain ⟨n,hn,rfl⟩:=List.getElem_of_mem ht;obtain ⟨k,hk,rfl⟩:=List.getElem_of_mem hs;exact (chE_zero.1 ((hz n hn).2 k hk)).1
          · obtain ⟨n,hn,rfl⟩:=List.getElem_of_mem ht;exact QAl fun k hk=>(chE_zero.1 ((hz n hn).2 k hk)).2.1
          · rcases Nat.lt_or_gt_of_ne hij with h3 | h3
            · obtain ⟨k,hk,rfl⟩:=List.getElem_of_mem hm;exact (chE_zero.1 ((hz j hj).2 k hk)).2.2.1 _ (List.mem_take_iff_getElem.2 ⟨i,by omega,rfl⟩) hs
            · obtain ⟨k,hk,rfl⟩:=List.getElem_of_mem hs;exact (chE_zero.1 ((hz i hi).2 k hk)).2.2.1 _ (List.mem_take_iff_getElem.2 ⟨j,by omega,rfl⟩) hm
          · obtain ⟨n,hn,rfl⟩:=List.getElem_of_mem ht;have:=(chE_zero.1 ((hz n hn).2 (k+1) hk)).2.2.2 (by omega);rwa [Nat.add_sub_cancel,List.getElem?_eq_getElem (show k < x.Na[n].Nc.length by omega),Option.getD_some] at this
    · rw [if_neg h1] at h;cases h
  · intro h;rw [if_pos ⟨h.sw,h.tr⟩,show (x.Nb.all Y1&&Xz x.Nh)=true by rw [Bool.and_eq_true,List.all_eq_true];exact ⟨h.pos,h.cnt⟩,cond_true];rw [QJe fun n hn=>by
      rw [hg n hn,tsE_zero];have ht:=List.getElem_mem hn;refine ⟨undB_iff.2 (h.un _ ht),fun k hk=>chE_zero.2 ⟨h.sc _ ht _ (List.getElem_mem hk),QQm (h.nd _ ht) hk,fun o ho hm=>?_,fun hk0=>?_⟩⟩
      · obtain ⟨i,hi,rfl⟩:=List.mem_take_iff_getElem.1 ho;exact h.dj i n (by omega) hn (by omega) _ hm (List.getElem_mem hk)
      · rw [List.getElem?_eq_getElem (show k - 1 < x.Na[n].Nc.length by omega),Option.getD_some];have:=h.ld _ ht (k - 1) (by omega);simp only [show k - 1+1=k by omega] at this;exact this]
end Go.Gw

end
section
set_option maxRecDepth 4096
namespace Go.Gw
open Go
attribute [local irreducible] loop
theorem Qxu {a b:List Int} (ha:0 < a.length) (hb:0 < b.length):decide (a[0]=b[b.length - 1])=decide (a.head?=b.getLast?):=by
 rw [List.head?_eq_getElem?,List.getLast?_eq_getElem?,List.getElem?_eq_getElem ha,List.getElem?_eq_getElem (show b.length - 1 < b.length by omega)];simp only [Option.some.injEq]
theorem QFk {p:Ng} (hp:PlantOk p) {x:Nf} (h:StateOk p x) {e:Nm} (he:ZL p e=0) :
    Runs (Qfu (some ⟨p,x⟩) e) fun r=>r.2=Ji p x e/\(Ji p x e=0->r.1=some ⟨p,ZF p x e⟩):=by
  have hs:=h.s hp;have hw4:=hp.w4;have ht3:=hp.t3;have hkd:=Qho he;have hsl:=h.sw;have htl:=h.tr;unfold Qfu;by_cases h2:e.Kind=2
  · obtain ⟨a0,a1,a2⟩:=Qqu he h2;have e1:Ji p x e=(bif Zm x (Qem p e).Nn then 17 else 0):=by unfold Ji;rw [if_pos h2]
    have e2:ZF p x e=⟨x.Nb.set e.A.toNat e.B,x.Na,x.Nh⟩:=by unfold ZF;rw [if_pos h2]
    rw [e1,e2,Qur a1,decide_eq_true h2,cond_true,Qp];show Runs (Option.bind (idx p.Nb e.A) _) _;rw [Qca a0 a1,Qp,Quu p hs _ (by simp),Qp];simp only [List.any_cons,List.any_nil,Bool.or_false];cases Zm x p.Nb[e.A.toNat].Nn with
    | true=>exact Runs.some ⟨rfl,fun hh=>by cases hh⟩
    | false =>
      simp only [cond_false];rw [Qqh _ (by show x.Nb.length < _;omega),Qp];show Runs (Option.bind (idx x.Nb e.A) _) _;rw [Qca a0 (by omega),Qp];exact Runs.some ⟨rfl,fun _=>rfl⟩
  obtain ⟨a0,a1,a2,a3,a4⟩:=Qqt he h2;have ha:e.A.toNat < x.Na.length:=by omega
  have htm:ZH x e∈x.Na:=by rw [Qgs ha];exact List.getElem_mem ha
  have hcl:=h.len htm;have hs8:=hp.s8;have hu:=h.un _ htm;have e2:ZF p x e=⟨x.Nb,x.Na.set e.A.toNat (trX p (ZH x e) e),x.Nh⟩:=by unfold ZF;rw [if_neg h2]
  have hnx:=fun c u=>QNq p x a0 ha (by omega) c u
  rw [e2,decide_eq_false h2,cond_false,Qp];show Runs (Option.bind (idx x.Na e.A) _) _;rw [Qca a0 ha,Qp,<-Qgs ha];unfold Ji trX;simp only [if_neg h2];generalize ZH x e=t at *
  by_cases h0:e.Kind=0
  · simp only [if_pos h0,decide_eq_true h0,cond_true];rw [YF,Qp,Quu p hs _ (by simp),Qp,YF,Qp,ZM _ (by simp),Qp,Qp];simp only [List.any_cons,List.any_nil,Bool.or_false,QJp];by_cases hc:t.Nc.length=0
    · simp only [hc,Int.natCast_zero,decide_true,cond_true,ne_eq,not_true_eq_false,if_false,if_true];cases Zm x e.B with
      | true=>exact Runs.some ⟨rfl,fun hh=>by cases hh⟩
      | false =>
        simp only [Bool.not_false,cond_true,decide_true,Bool.not_true,cond_false];rw [hnx,Qp];exact Runs.some ⟨rfl,fun _=>rfl⟩
    · rw [if_neg hc,decide_eq_false (show ¬ (t.Nc.length:Int)=0 by omega)];exact Runs.some ⟨rfl,fun hh=>by cases hh⟩
  simp only [if_neg h0,decide_eq_false h0,cond_false];by_cases hc:t.Nc.length=0
  · rw [decide_eq_true (show (t.Nc.length:Int)=0 by omega),if_pos hc];exact Runs.some ⟨rfl,fun hh=>by cases hh⟩
  rw [decide_eq_false (show ¬ (t.Nc.length:Int)=0 by omega),cond_false,YF,Qp,if_neg hc];have hu2:1<=t.Nk/\t.Nk<=t.Nc.length:=by
    rcases hu with ⟨h3,_⟩ | h3
    · rw [h3] at hc;exact absurd rfl hc
    · exact h3
  by_cases h1:e.Kind=1
  · simp only [if_pos h1,decide_eq_true h1,cond_true];obtain ⟨b0,b1⟩:=a3 h1;rw [show (⟨p,x⟩:Nr).Nx.Nj=p.Nj from rfl,Qca b0 b1,Qp,<-Qiy b1];have hr:J7 p e∈p.Nj:=by rw [Qiy b1];exact List.getElem_mem b1
    generalize J7 p e=r at *
    have hr2:=hp.r2 r hr;have hr8:=hp.r8 r hr;have hrn:=hp.rn r hr;rw [Qku (by omega),Qp,show (0:Int)=((0:Nat):Int) from rfl,XD (show 0 < r.Nd.length by omega),Qp,
      show w64 ((t.Nc.length:Int) - 1)=((t.Nc.length - 1:Nat):Int) by rw [Y8 (by omega)];omega,XD (show t.Nc.length - 1 < t.Nc.length by omega),Qp,YF,Qp,
      Quu p hs _ (by simp;omega),Qp,YF,Qp,Qyi hrn hsl (by omega) (by omega),Qp,YF,Qp,ZM _ (by simp),Qp,Qxu (by omega) (by omega),Qfl]
    by_cases h3:r.Nd.head?=t.Nc.getLast?
    · simp only [h3,decide_true,cond_true,Int.natCast_zero,ne_eq,not_true_eq_false,if_false,if_true];cases hb:(r.Nd.drop 1).any (Zm x) with
      | true=>exact Runs.some ⟨rfl,fun hh=>by cases hh⟩
      | false =>
        cases hl:YN p x.Nb r r.Nd with
        | false=>exact Runs.some ⟨rfl,fun hh=>by cases hh⟩
        | true =>
          simp only [Bool.not_false,cond_true,Int.natCast_zero,not_true_eq_false,if_false,decide_true,Bool.not_true,cond_false];rw [QGi _ _ (by omega) (by simp;omega),Qp,hnx,Qp];exact Runs.some ⟨rfl,fun _=>rfl⟩
    · simp only [h3,decide_false,cond_false,if_false];exact Runs.some ⟨rfl,fun hh=>by cases hh⟩
  simp only [if_neg h1,decide_eq_false h1,cond_false];by_cases h3:e.Kind=3
  · simp only [if_pos h3,decide_eq_true h3,cond_true];rw [if_neg (by omega),if_pos (.inl h3),hnx,Qp,Y8 (by omega)];by_cases h5:t.Nk < t.Nc.length
    · rw [if_pos h5,decide_eq_true h5];exact Runs.some ⟨rfl,fun _=>rfl⟩
    · rw [if_neg h5,decide_eq_false h5];exact Runs.some ⟨rfl,fun hh=>by cases hh⟩
  simp only [if_neg h3,decide_eq_false h3,cond_false];by_cases h4:e.Kind=4
  · simp only [if_pos h4,decide_eq_true h4,cond_true];rw [Qku (by omega),Qp,hnx,Qp,YF,Qp,Y8 (by omega)];by_cases h5:1 < t.Nk
    · rw [if_pos h5,decide_eq_true h5];exact Runs.some ⟨rfl,fun _=>rfl⟩
    · rw [if_neg h5,decide_eq_false h5];exact Runs.some ⟨rfl,fun hh=>by cases hh⟩
  simp only [if_neg h4,decide_eq_false h4,cond_false];by_cases h5:e.Kind=5
  · simp only [if_pos h5,decide_eq_true h5,cond_true];rw [if_pos (.inr h5),show w64 ((t.Nc.length:Int) - 1)=((t.Nc.length - 1:Nat):Int) by rw [Y8 (by omega)];omega,Qct (by omega),Qp,hnx,Qp];by_cases h6:t.Nk < t.Nc.length
    · rw [if_pos h6,decide_eq_true h6];exact Runs.some ⟨rfl,fun _=>rfl⟩
    · rw [if_neg h6,decide_eq_false h6];exact Runs.some ⟨rfl,fun hh=>by cases hh⟩
  simp only [if_neg h5,decide_eq_false h5,cond_false];rw [if_neg (by omega),hnx,Qp,YF,Qp];by_cases h6:t.Nc.length=1
  · rw [if_pos h6,decide_eq_true (by omega)];exact Runs.some ⟨rfl,fun _=>rfl⟩
  · rw [if_neg h6,decide_eq_false (by omega)];exact Runs.some ⟨rfl,fun hh=>by cases hh⟩
/-! ### The beginning, copies -/
theorem QWw (p:Ng) {x:Nf} (h:StateS x):Qhy (some ⟨p,x⟩)=some x:=by
 have h1:=h.sw;have h2:=h.tr;unfold Qhy;rw [Qp];show Option.bind (Option.bind (Qdf x.Nb) _) _=_;rw [Qqh _ (by omega),Qp,Qp];simp only [Qp];have hl:=Qif (step:=Qhx ⟨p,x⟩) (o:=x.Na) (fun k=>((k:Int),x.Na.take k)) x.Na.length (fun k hk=>by
  unfold Qhx;show (bif decide ((k:Int) < (x.Na.length:Int)) then Option.bind (idx x.Na (k:Int)) _ else _)=_;rw [XZ hk,cond_true,XD hk,Qp,Qqh _ (by have:=h.ch _ (List.getElem_mem hk);omega),Qp,Qad (by simp;omega),Qp,XX k (by omega)];show some (Sum.inl (_,x.Na.take k++[x.Na[k]]))=_;have:=Qus x.Na id k hk;simp only [List.map_id,id_eq] at this;rw [this]) (by
  unfold Qhx;show (bif decide ((x.Na.length:Int) < (x.Na.length:Int)) then _ else _)=_;rw [X3,List.take_length];rfl)
 have hl2:loop (Qhx ⟨p,x⟩) (0,([]:List Nl))=some x.Na:=hl;rw [hl2];rfl
end Go.Gw

end
section
set_option maxRecDepth 4096
namespace Go.Gw
open Go
attribute [local irreducible] loop
def Qar:Nf:=⟨[],[],0⟩
def Jf (p:Ng) (x:Nf) (e:Nm):Int:=if ZL p e=0 then Ji p x e else ZL p e
def evs (p:Ng):Nf->Nat->List Nm->Nf⊕(Nat×Int)
 | x,_,[]=>.inl x
 | x,k,e::l=>if Jf p x e=0 then evs p (ZF p x e) (k+1) l else .inr (k,Jf p x e)
theorem QHp {p:Ng} (hp:PlantOk p) {x:Nf} (h:StateOk p x) {e:Nm} (he:Jf p x e=0):ZL p e=0/\Ji p x e=0/\StateOk p (ZF p x e):=by
 unfold Jf at he;by_cases h1:ZL p e=0
 ·rw [if_pos h1] at he;exact ⟨h1,he,QCu hp h h1 he⟩
 ·rw [if_neg h1] at he;exact absurd he h1
end Go.Gw

end
section
set_option maxRecDepth 4096
namespace Go.Gw
open Go
attribute [local irreducible] loop
end Go.Gw

end
section
set_option maxRecDepth 4096
namespace Go.Gw
open Go
attribute [local irreducible] loop
end Go.Gw

end
section
set_option maxRecDepth 4096
namespace Go.Gw
open Go
attribute [local irreducible] loop
end Go.Gw

end
