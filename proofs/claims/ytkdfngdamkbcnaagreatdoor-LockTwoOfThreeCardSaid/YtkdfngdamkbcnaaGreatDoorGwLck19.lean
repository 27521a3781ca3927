/- Laws of the walk. Condition: each theorem says its own. -/
import Derived.Test.YtkdfngdamkbcnaaGreatDoorGwAwakeLock
set_option linter.unusedVariables false
set_option linter.unusedSimpArgs false
set_option linter.unusedSectionVars false
section
set_option maxRecDepth 4096
namespace Go.Gw
open Go
attribute [local irreducible] loop
theorem Qzb {α:Type} {p:α->Bool}:∀ (l:List α) (m:Nat),(XY p (fun k _=>(k:Int)) m l=.inr ()/\l.any p=false)\/∃ j,∃ h:j < l.length,XY p (fun k _=>(k:Int)) m l=.inl ((m+j:Nat):Int)/\p l[j]=true
 | [],m=>.inl ⟨rfl,rfl⟩
 | x::l,m=>by
  by_cases hp:p x=true
  ·exact .inr ⟨0,by simp,by simp [XY,hp],by simpa using hp⟩
  ·rcases Qzb (p:=p) l (m+1) with ⟨h1,h2⟩ | ⟨j,hj,h1,h2⟩
   ·exact .inl ⟨by simp [XY,hp,h1],by simp [hp,h2]⟩
   ·exact .inr ⟨j+1,by simpa using hj,by simp only [XY,hp];rw [h1];simp;omega,by simpa using h2⟩
theorem QHe {α:Type} (p:α->Bool) (l:List α):(Qbv p l=-1/\l.any p=false)\/∃ j,∃ h:j < l.length,Qbv p l=(j:Int)/\p l[j]=true:=by
 unfold Qbv;rcases Qzb (p:=p) l 0 with ⟨h1,h2⟩ | ⟨j,hj,h1,h2⟩
 ·exact .inl ⟨by rw [h1],h2⟩
 ·exact .inr ⟨j,hj,by rw [h1];simp,h2⟩
theorem Qxa {α:Type} {l:List α} (h:l.Nodup) {i j:Nat} (hi:i < l.length) (hj:j < l.length) (e:l[i]=l[j]):i=j:=by
 unfold List.Nodup at h;rw [List.pairwise_iff_getElem] at h;rcases Nat.lt_trichotomy i j with h1 | h1 | h1
 ·exact absurd e (h i j hi hj h1)
 ·exact h1
 ·exact absurd e.symm (h j i hj hi h1)
theorem QHi {p:Nh} (hp:PlantOk p) {x:Ni} (h2:x.Nc.length=p.Nc.length) (a b:Int):Qkq (some ⟨p,x⟩) a b=some (Qah p x.Nc a b):=by
  have hw4:=hp.w4;have hr10:=hp.r10;have hs8:=hp.s8;unfold Qkq Qah;rw [Qq,Zw p.Nk (fun r=>JY r a b&&ZG p x.Nc r [a,b]) (fun _ _=>true),Qq]
  · rcases Qam (p:=fun r=>JY r a b&&ZG p x.Nc r [a,b]) (res:=fun _ _=>true) p.Nk 0 with ⟨k1,k2⟩ | ⟨j,y,k1,k2,k3⟩
    · rw [k1,k2];rfl
    · rw [k1,k3];rfl
  · intro k hk;have hr:=List.getElem_mem hk;unfold Qpm;simp only [Yu hk,cond_true,XV hk,Qq];generalize p.Nk[k]=r at hr ⊢;have hr2:=hp.r2 r hr;have hr8:=hp.r8 r hr;have hrd:=hp.rd r hr;rw [Qvb _ _ (by omega),Qq,Qvg (hp.rn r hr) h2 (by omega) (by simp),Yw k (by omega)];rcases QHe (fun x=>decide (a=x)) r.Nf with ⟨h3,h4⟩ | ⟨j,hj,h3,h4⟩
    · rw [h3];have h5:JY r a b=false:=by
        cases hb:JY r a b with
        | false=>rfl
        | true =>
          obtain ⟨j,hj,h6,_⟩:=pairB_iff.1 hb;rw [Qtd,decide_eq_false_iff_not] at h4;exact absurd (h6▸List.getElem_mem _) h4
      rw [h5];rfl
    · rw [h3];have h4:a=r.Nf[j]:=by simpa using h4
      rw [decide_eq_true (show (0:Int)<=(j:Int) by omega),Yw j (by omega)];by_cases h5:j+1 < r.Nf.length
      · rw [Yu h5];simp only [Bool.and_self,cond_true];rw [XV h5,Qq];have h6:JY r a b=decide (r.Nf[j+1]=b):=by
          rw [Bool.eq_iff_iff,pairB_iff,decide_eq_true_eq];constructor
          · rintro ⟨i,hi,h7,h8⟩;have:i=j:=Qxa hrd (by omega) hj (h7.trans h4);subst this;exact h8
          · intro h7;exact ⟨j,h5,h4.symm,h7⟩
        rw [h6];cases decide (r.Nf[j+1]=b)<;>rfl
      · rw [decide_eq_false (show ¬ ((j+1:Nat):Int) < r.Nf.length by omega)];have h6:JY r a b=false:=by
          cases hb:JY r a b with
          | false=>rfl
          | true =>
            obtain ⟨i,hi,h7,_⟩:=pairB_iff.1 hb;have:i=j:=Qxa hrd (by omega) hj (h7.trans h4);omega
        rw [h6];rfl
  · unfold Qpm;simp only [Yx];rfl
theorem Quo {α:Type} (g:α->Bool):∀ (l:List α) (k:Nat) (b:Bool),fld (fun (_:Nat) (a:Bool) (x:α)=>a||g x) k b l=(b||l.any g)
 | [],k,b=>by simp [fld]
 | x::l,k,b=>by
  unfold fld;rw [Quo g l];simp [Bool.or_assoc]
theorem QCo (l:List Nl) (h:∀ t∈l,t.Ng.length < 1000) (hl:l.length < 1000) (s:Int) (b:Bool):loop (Qgv s l) (b,0)=some (b||l.any fun o=>decide (s∈o.Ng)):=by
 have:=(QJo (step:=Qgv s l) l (fun _ (c:Bool) o=>c||decide (s∈o.Ng)) (fun c k=>(c,(k:Int))) (fun c=>c) (fun _ _=>True) b trivial (fun k hk c _=>by
  refine ⟨?_,trivial⟩;unfold Qgv;simp only [Yu hk,cond_true,XV hk,Qq,Yw k (show k < 4611686018427387904 by omega),Qeb _ _ (show l[k].Ng.length < 1000000 by have:=h _ (List.getElem_mem hk);omega)];cases c<;>rfl) (fun c _=>by
  unfold Qgv;simp only [Yx];rfl)).1
 rw [Quo] at this;exact this
theorem QSk (t:Nl):Z5 t.Nq (if (t.Ng.length:Int) < 1 then (t.Ng.length:Int) else 1) (t.Ng.length:Int)=some (Qbi t):=by
 rw [Qsf];congr 1;unfold Qbi;by_cases h0:t.Ng.length=0
 ·rw [if_pos h0,if_pos (show (t.Ng.length:Int) < 1 by omega),Bool.eq_iff_iff];simp only [Bool.and_eq_true,decide_eq_true_eq];omega
 ·rw [if_neg h0,if_neg (show ¬ (t.Ng.length:Int) < 1 by omega)]
theorem QHh {p:Nh} (hS:PlantS p) (hp:PlantOk p) {x:Ni} (h:StateS x) (h2:x.Nc.length=p.Nc.length) (n:Nat) (hn:n < x.Nb.length):Qko (some ⟨p,x⟩) (n:Int)=some (J6 p x n):=by
  have hs:J6 p x n=tsE p x n x.Nb[n]:=JV _ _ _ hn;have hc:=h.ch _ (List.getElem_mem hn);have hl:=h.tr;rw [hs];unfold Qko tsE;simp only [Qq,XV hn];rw [QSk,Qq];cases Qbi x.Nb[n]
  · rfl
  simp only [Bool.not_true,cond_false,cond_true];have key:loop (Qkn x.Nb[n] (some ⟨p,x⟩) (n:Int)) 0=some (match XJ (Qau p x n x.Nb[n]) x.Nb[n].Ng.length with | some i=>.inl (Qau p x n x.Nb[n] i) | none=>.inr ()) :=
    Qes (fun k=>(k:Int)) x.Nb[n].Ng.length (Qau p x n x.Nb[n]) (fun _ e=>e) () (fun k hk _=>by
      have hs:Qau p x n x.Nb[n] k=chE p x n x.Nb[n] k x.Nb[n].Ng[k]:=JV _ _ _ hk;rw [hs];unfold Qkn chE;simp only [Yu hk,cond_true,XV hk,Qq];rw [Qgh (by omega),Qq,Qeb _ _ (by simp;omega),Qq,Qgh (by omega),Qq,
        QCo _ (fun t ht=>h.ch t (List.mem_of_mem_take ht)) (by simp;omega),Qq,Qyn hS,Qq,X7,Qq,Yw k (by omega)]
      generalize (decide (x.Nb[n].Ng[k]∈x.Nb[n].Ng.take k)||(x.Nb.take n).any fun o=>decide (x.Nb[n].Ng[k]∈o.Ng))=bb;by_cases hk0:k=0
      · subst hk0;simp only [Int.natCast_zero,decide_true,Bool.not_true,cond_false,Qq,Bool.true_or,if_true,X7,cond_true];rw [Zb _ (by simp),Qq,Qeh];cases YK p x.Nb[n].Ng[0]<;>cases bb<;>rfl
      · rw [decide_eq_false (show ¬ (k : Int) = 0 by omega), show w64 ((k : Int) - 1) = ((k - 1 : Nat) : Int) by rw [Yz (by omega)]; omega,
          show (if (0:Int) < ((k - 1:Nat):Int) then ((k - 1:Nat):Int) else 0)=((k - 1:Nat):Int) by split<;>omega]
        simp only [Bool.not_false,cond_true,XV (show k - 1 < x.Nb[n].Ng.length by omega),Qq,QHi hp h2,if_neg hk0,List.getElem?_eq_getElem (show k - 1 < x.Nb[n].Ng.length by omega),Option.getD_some,Bool.false_or,X7];rw [Zb _ (by simp),Qq,Qeh];cases YK p x.Nb[n].Ng[k]<;>cases bb<;>cases Qah p x.Nc x.Nb[n].Ng[k - 1] x.Nb[n].Ng[k]<;>rfl) (fun _=>by
      unfold Qkn;simp only [Yx];rfl)
  rw [key,Qq];cases XJ (Qau p x n x.Nb[n]) x.Nb[n].Ng.length<;>rfl
theorem QNq (l:List Int) (hl:l.length < 1000):Qmc l=some (!(l.all Y4)):=by
 unfold Qmc Qrh;rw [Zw l (fun n=>!(Y4 n)) (fun k _=>(k:Int)),Qq,Qig,Qq,Qif]
 ·rw [List.all_eq_not_any_not,Bool.not_not]
 ·intro k hk;unfold Qrg;rw [Yu hk,XV hk,Yw k (by omega)];rfl
 ·unfold Qrg;rw [Yx];rfl
def JE (p:Nh) (x:Ni):Int:=if (Qaj p).2=0 then Qmf p x else (Qaj p).2
theorem Qxj {p:Nh} (hS:PlantS p) {x:Ni} (h:StateS x):Qhd p x=some (if JE p x=0 then (some ⟨p,x⟩,0) else (none,JE p x)):=by
  have h1:=h.sw;have h2:=h.tr;have h3:=hS.sw;have h4:=hS.tr;unfold Qhd JE;rw [QNq _ (by omega),Qq,QNp hS,Qq,X7,Qq,Bool.not_not];by_cases hp0:(Qaj p).2=0
  · have hp:=Qxs hp0;simp only [if_pos hp0,hp0];unfold Qmf;by_cases hl:x.Nc.length=p.Nc.length/\x.Nb.length=p.Nb.length
    · rw [if_pos hl,decide_eq_true (show (x.Nc.length:Int)=p.Nc.length by omega),decide_eq_true (show (x.Nb.length:Int)=p.Nb.length by omega)];have e1:∀ (f:Bool->Option (Option Nm×Int)),(Option.bind (bif x.Nc.all Y4 then JC x.Nj else some default) f)=f (bif x.Nc.all Y4 then Q7 x.Nj else default):=fun f=>by
        cases x.Nc.all Y4<;>rfl
      rw [e1,X7,Qq,Zb _ (by simp),Qq,Qeh];cases ha:x.Nc.all Y4
      · rfl
      · cases hb:Q7 x.Nj
        · rfl
        · simp only [Bool.and_self,cond_true,ne_eq,not_true_eq_false,if_false,decide_true,Bool.not_true,cond_false];have key:loop (Qkv p x) 0=some (match XJ (J6 p x) x.Nb.length with | some i=>.inl (none,J6 p x i) | none=>.inr ()) :=
            Qes (fun k=>(k:Int)) x.Nb.length (J6 p x) (fun _ e=>(none,e)) () (fun k hk _=>by
              unfold Qkv;rw [Yu hk,cond_true,QHh hS hp h hl.1 k hk,Qq,Yw k (by omega)];by_cases h5:J6 p x k=0
              · rw [if_pos h5,decide_eq_true h5];rfl
              · rw [if_neg h5,decide_eq_false h5];rfl) (fun _=>by
              unfold Qkv;rw [Yx];rfl)
          rw [key,Qq];cases hf:XJ (J6 p x) x.Nb.length with
          | some i =>
            have h5:=(Qav hf).2.1;simp [Xy,h5]
          | none=>rfl
    · rw [if_neg hl, show (decide ((x.Nc.length : Int) = p.Nc.length) && decide ((x.Nb.length : Int) = p.Nb.length)) = false by
        rw [Bool.and_eq_false_iff,decide_eq_false_iff_not,decide_eq_false_iff_not];omega]
      have e1:∀ (f:Bool->Option (Option Nm×Int)),(Option.bind (bif x.Nc.all Y4 then JC x.Nj else some default) f)=f (bif x.Nc.all Y4 then Q7 x.Nj else default):=fun f=>by
        cases x.Nc.all Y4<;>rfl
      rw [e1,X7,Qq,Zb _ (by simp),Qq,Qeh];rfl
  · simp only [if_neg hp0];have e1:∀ (f:Bool->Option (Option Nm×Int)),(Option.bind (bif x.Nc.all Y4 then JC x.Nj else some default) f)=f (bif x.Nc.all Y4 then Q7 x.Nj else default):=fun f=>by
      cases x.Nc.all Y4<;>rfl
    rw [e1,X7,Qq,Zb _ (by simp),Qq,Qeh,if_pos hp0,decide_eq_false hp0];rfl
theorem Qxk {p:Nh} {x:Ni} (h:JE p x=0):PlantOk p/\StateOk p x/\(Qaj p).2=0:=by
 unfold JE at h;by_cases hp0:(Qaj p).2=0
 ·rw [if_pos hp0] at h;exact ⟨Qxs hp0,state_iff.1 h,hp0⟩
 ·rw [if_neg hp0] at h;exact absurd h hp0
def Qnk (p:Nh) (x:Ni) (e:Nn):Ni×Int:=if JE p x=0 then (if JU p x e=0 then (JH p x e,0) else (Qar,JU p x e)) else (Qar,JE p x)
theorem QHg {p:Nh} (hS:PlantS p) {x:Ni} (h:StateS x) (e:Nn):Qki p x e=some (Qnk p x e):=by
 unfold Qki Qnk;rw [Qxj hS h,Qq];by_cases h0:JE p x=0
 ·obtain ⟨hp,hx,_⟩:=Qxk h0;simp only [if_pos h0,decide_true,cond_true];rw [QEm hS,Qq,Qq];unfold JU;by_cases h1:ZS p e=0
  ·obtain ⟨r,hr,h2,h3⟩:=QCd hp hx h1;simp only [if_pos h1,decide_eq_true h1,cond_true];rw [hr,Qq,Qq,h2];by_cases h4:J1 p x e=0
   ·rw [if_pos h4,h3 h4,decide_eq_true h4];simp only [Bool.not_true,cond_false];rw [QSg p ((Qzf hp hx h1 h4).s hp)];rfl
   ·rw [if_neg h4,decide_eq_false h4];rfl
  ·simp only [if_neg h1,decide_eq_false h1,cond_false,Qq,Bool.not_false,cond_true];rfl
 ·simp only [if_neg h0,decide_eq_false h0,cond_false,Qq,Bool.not_false,cond_true];rfl
theorem QCf (t:Nd):Nd.mk t.e0 t.e1 t.e2 t.e3 t.e4=t:=rfl
theorem QSt {a b c t:Nd} (h:JK a b c=some t):XI t=0:=by
 unfold JK at h;by_cases h0:XI a=0/\(a=b\/a=c)
 ·rw [if_pos h0] at h;cases h;exact h0.1
 rw [if_neg h0] at h;by_cases h1:XI b=0/\(b=a\/b=c)
 ·rw [if_pos h1] at h;cases h;exact h1.1
 rw [if_neg h1] at h;by_cases h2:XI c=0/\(c=a\/c=b)
 ·rw [if_pos h2] at h;cases h;exact h2.1
 rw [if_neg h2] at h;cases h
def Qdl (p:Nh) (x:Ni) (l:Nz):Ni×Int:=match JK l.e0 l.e1 l.e2 with
 | none=>(Qar,12)
 | some t=>if t.e3=x.Nj then (if JU p x ⟨t.e0,t.e1,t.e2⟩=0 then (⟨(JH p x ⟨t.e0,t.e1,t.e2⟩).Nc,(JH p x ⟨t.e0,t.e1,t.e2⟩).Nb,Int.tmod (t.e3+1) 251⟩,0) else (Qar,JU p x ⟨t.e0,t.e1,t.e2⟩)) else (Qar,9)
theorem QSe {t:Nd} (h:XI t=0):Q7 t.e3=true:=by
 unfold XI at h;cases hb:Q7 t.e3 with
 | true=>rfl
 | false=>rw [hb] at h;simp at h
theorem QSv {n:Int} (h:Q7 n=true):w64 (n+1)=n+1:=by
 unfold Q7 at h;simp at h;exact Yz (by omega)
theorem QHj {p:Nh} (hS:PlantS p) {x:Ni} (h:StateS x) (l:Nz):Qgp p x l=some (if JE p x=0 then Qdl p x l else (Qar,JE p x)):=by
 unfold Qgp;rw [Qxj hS h,Qq];by_cases h0:JE p x=0
 ·simp only [if_pos h0,decide_true,Bool.not_true,cond_false];rw [QAj,Qq];unfold Qir Qdl;cases hv:JK l.e0 l.e1 l.e2 with
  | none=>rfl
  | some t =>
   have ht:=QSt hv;simp only [decide_true,Bool.not_true,cond_false,QCf];rw [Qum,Qq];unfold evt;rw [if_pos ht];simp only;by_cases h1:t.e3=x.Nj
   ·rw [if_pos h1,decide_eq_true h1,Bool.not_true,cond_false,QHg hS h,Qq];unfold Qnk;rw [if_pos h0,QSv (QSe ht)];by_cases h2:JU p x ⟨t.e0,t.e1,t.e2⟩=0
    ·simp only [if_pos h2,decide_true,Bool.not_true,cond_false]
    ·simp only [if_neg h2,decide_eq_false h2,Bool.not_false,cond_true];rfl
   ·rw [if_neg h1,decide_eq_false h1];rfl
 ·simp only [if_neg h0,decide_eq_false h0,Bool.not_false,cond_true];rfl
end Go.Gw

end
section
set_option maxRecDepth 4096
namespace Go.Gw
open Go
attribute [local irreducible] loop
theorem Qzc (x:Ni):Ni.mk x.Nc x.Nb x.Nj=x:=rfl
theorem Qmy:StateS Qar:=⟨by simp [Qar],by simp [Qar],fun t ht=>by simp [Qar] at ht⟩
theorem Qyk {x:Ni} (h:StateS x):Qhp x x=some true:=by rw [QPd h,decide_eq_true rfl]
theorem Qvh {p:Nh} {x:Ni} {F:Bool->Bool->Option Bool} (h0:∀ b,F false b=some true) (h1:F true false=some true) (h2:PlantS p->StateS x->(p.Nf.length<=4\/8 < p.Nf.length)->F true true=some true) :
  (Option.bind (Qej p) fun r=>Option.bind (bif !(!r) then Qek x else some default) fun s=>F r s)=some true:=by
 rcases QGa p with ⟨hf,hS,h8⟩ | hf
 ·rw [hf,Qq];rcases QGb x with ⟨hx,hX⟩ | hx
  ·simp only [Bool.not_true,Bool.not_false,cond_true];rw [hx,Qq];exact h2 hS hX h8
  ·simp only [Bool.not_true,Bool.not_false,cond_true];rw [hx,Qq];exact h1
 ·rw [hf,Qq];exact h0 _
end Go.Gw

end
section
set_option maxRecDepth 4096
namespace Go.Gw
open Go
attribute [local irreducible] loop
theorem telE_zero {t:Nd}:XI t=0↔(Q7 t.e0=true/\Q7 t.e1=true/\Q7 t.e2=true/\Q7 t.e3=true/\Q7 t.e4=true)/\t.e4=Z0 t/\JW t.e0=true:=by
 unfold XI;cases Q7 t.e0<;>cases Q7 t.e1<;>cases Q7 t.e2<;>cases Q7 t.e3<;>cases Q7 t.e4<;>cases JW t.e0<;>by_cases h:t.e4=Z0 t<;>simp [h]
theorem Qnt {n:Int}:Q7 n=true↔0<=n/\n<=250:=by unfold Q7;simp
theorem Qnx {t:Nd} (h0:Q7 t.e0=true) (h1:Q7 t.e1=true) (h2:Q7 t.e2=true) (h3:Q7 t.e3=true):Z0 t=((t.e0+1)+2 * (t.e1+1)+3 * (t.e2+1)+4 * (t.e3+1)) % 251:=by
 rw [Qnt] at h0 h1 h2 h3;have e:Z0 t=Int.tmod ((t.e0+1)+2 * (t.e1+1)+3 * (t.e2+1)+4 * (t.e3+1)) 251:=by
  unfold Z0;rw [Yz (x:=t.e0+1) (by omega),Yz (x:=t.e1+1) (by omega),Yz (x:=t.e2+1) (by omega),Yz (x:=t.e3+1) (by omega)];rw [Yz (x:=1 * (t.e0+1)) (by omega),Yz (x:=2 * (t.e1+1)) (by omega),Yz (x:=3 * (t.e2+1)) (by omega),Yz (x:=4 * (t.e3+1)) (by omega)];rw [Yz (x:=0+1 * (t.e0+1)) (by omega),Yz (x:=0+1 * (t.e0+1)+2 * (t.e1+1)) (by omega),Yz (x:=0+1 * (t.e0+1)+2 * (t.e1+1)+3 * (t.e2+1)) (by omega),Yz (by omega)];congr 1;omega
 rw [e,Int.tmod_eq_emod_of_nonneg (by omega)]
def Qcb (t:Nd) (i n:Int):Nd:=Nd.mk (if i=0 then n else t.e0) (if i=1 then n else t.e1) (if i=2 then n else t.e2) (if i=3 then n else t.e3) (if i=4 then n else t.e4)
theorem QNt {t:Nd} {i n:Int} (hi:0<=i/\i < 5) (h:XI t=0) (h':XI (Qcb t i n)=0):Qcb t i n=t:=by
 obtain ⟨⟨a0,a1,a2,a3,a4⟩,hc,_⟩:=telE_zero.1 h;obtain ⟨⟨b0,b1,b2,b3,b4⟩,hd,_⟩:=telE_zero.1 h';rw [Qnx a0 a1 a2 a3] at hc;rw [Qnx b0 b1 b2 b3] at hd;rw [Qnt] at a0 a1 a2 a3 a4 b0 b1 b2 b3 b4;obtain ⟨e0,e1,e2,e3,e4⟩:=t;have hk:i=0\/i=1\/i=2\/i=3\/i=4:=by omega
 rcases hk with rfl | rfl | rfl | rfl | rfl<;>simp [Qcb] at *<;>omega
theorem QAk {a b c t:Nd} (h:XI t=0) (hw:(a=t/\b=t)\/(a=t/\c=t)\/(b=t/\c=t)):JK a b c=some t:=by
 unfold JK;rcases hw with ⟨ha,hb⟩ | ⟨ha,hb⟩ | ⟨ha,hb⟩
 ·rw [ha,hb];simp [h]
 ·rw [ha,hb];simp [h]
 ·rw [ha,hb];by_cases h1:a=t
  ·subst h1;simp [h]
  ·rw [if_neg (by intro h2;rcases h2.2 with h3 | h3<;>exact h1 h3)];simp [h]
end Go.Gw

end
