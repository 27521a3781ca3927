/- Laws of the walk. Condition: each theorem says its own. -/
import Derived.Test.YtibgnokgebjbfaaGreatDoorGwAwakeLock
set_option linter.unusedVariables false
set_option linter.unusedSimpArgs false
set_option linter.unusedSectionVars false
section
set_option maxRecDepth 4096
namespace Go.Gw
open Go
attribute [local irreducible] loop
theorem QJx {α ρ:Type} {step:Int->Option (Int⊕(ρ⊕Unit))} (xs:List α) (p:α->Bool) (c:ρ) (h1:1<=xs.length)
  (hs:∀ k (hk:k < xs.length),1<=k->step (k:Int)=(bif p xs[k] then some (.inr (.inl c)) else some (.inl ((k+1:Nat):Int))))
  (he:step (xs.length:Int)=some (.inr (.inr ()))):loop step 1=some (if (xs.drop 1).any p=true then .inl c else .inr ()):=by
 have key:∀ j k,1<=k->j+k=xs.length->loop step (k:Int)=some (if (xs.drop k).any p=true then .inl c else .inr ()):=by
  intro j
  induction j with
  | zero =>
   intro k _ hk;obtain rfl:k=xs.length:=by omega
   rw [List.drop_length];exact JH he
  | succ j ih =>
   intro k hk1 hk;have hlt:k < xs.length:=by omega
   rw [List.drop_eq_getElem_cons hlt,List.any_cons];have:=hs k hlt hk1;cases hp:p xs[k] with
   | true=>rw [hp] at this;exact JH this
   | false=>rw [hp] at this;rw [Qac this,Bool.false_or];exact ih (k+1) (by omega) (by omega)
 exact key (xs.length - 1) 1 (by omega) (by omega)
def Qcf (q:Int×Int):Bool:=!decide (q.1=-1)&&!decide (q.1=q.2)
theorem QDu {p:Nf} {r:Nn} {sw:List Int} (h1:r.Nr.length=p.Na.length) (h2:sw.length=p.Na.length) (hx:(r.Nr.zip p.Na).any (JI r)=false):(r.Nr.zip sw).any Qcf=!(Zs p sw r r.Nc):=by
 rw [List.any_eq_false] at hx;have hn:∀ k (hk:k < p.Na.length),(p.Na[k].Nq∈r.Nc->r.Nr[k]≠-1)/\(p.Na[k].Nq∉r.Nc->r.Nr[k]=-1):=fun k hk=>by
  have:=hx (r.Nr[k],p.Na[k]) (List.mem_iff_getElem.2 ⟨k,by simp;omega,by simp⟩);unfold JI at this;by_cases hm:p.Na[k].Nq∈r.Nc
  ·simp [hm] at this;exact ⟨fun _=>by omega,fun h=>absurd hm h⟩
  ·simp [hm] at this;exact ⟨fun h=>absurd h hm,fun _=>this⟩
 cases hl:Zs p sw r r.Nc with
 | true =>
  rw [Bool.not_true,List.any_eq_false];intro q hq;obtain ⟨k,hk,rfl⟩:=List.getElem_of_mem hq;simp only [List.length_zip] at hk;simp only [List.getElem_zip,Qcf,Bool.and_eq_true,Bool.not_eq_true',decide_eq_false_iff_not,not_and,Decidable.not_not];intro hne;by_cases hm:p.Na[k].Nq∈r.Nc
  ·exact liesB_iff.1 hl k (by omega) (by omega) (by omega) hm
  ·exact absurd ((hn k (by omega)).2 hm) hne
 | false =>
  rw [Bool.not_false];cases ha:(r.Nr.zip sw).any Qcf with
  | true=>rfl
  | false =>
   rw [List.any_eq_false] at ha;have:Zs p sw r r.Nc=true:=liesB_iff.2 fun k k1 k2 k3 hm=>by
    have:=ha (r.Nr[k],sw[k]) (List.mem_iff_getElem.2 ⟨k,by simp;omega,by simp⟩);simp only [Qcf,Bool.and_eq_true,Bool.not_eq_true',decide_eq_false_iff_not,not_and,Decidable.not_not] at this;exact this ((hn k k1).1 hm)
   rw [this] at hl;cases hl
theorem QHg {α:Type} {xs:List α} (h:0 < xs.length):idx xs 0=some xs[0]:=XA (k:=0) h
theorem QOs {p:Nf} (hp:PlantOk p) {x:Ng} (h:StateOk p x) {e:Nl} (he:Zp p e=0):Qmr p x e=some (if ZO p x e=0 then (Y5 p x e,0) else (x,ZO p x e)):=by
  have hs:=h.s hp;have hw4:=hp.w4;have ht3:=hp.t3;have hkd:=Qgv he;have hsl:=h.sw;have htl:=h.tr;unfold Qmr;by_cases h2:e.Kind=2
  · obtain ⟨a0,a1,a2⟩:=Qpu he h2;have e1:ZO p x e=(bif Y6 x (Qdw p e).Nq then 17 else 0):=by unfold ZO;rw [if_pos h2]
    have e2:Y5 p x e=⟨x.Na.set e.A.toNat e.B,x.Nb,x.Nh⟩:=by unfold Y5;rw [if_pos h2]
    rw [e1,e2,Qth a1,decide_eq_true h2,cond_true,Qvk hs,Qo,Qbi a0 a1,Qo,Qsd hs,Qo,Qkk];cases Y6 x p.Na[e.A.toNat].Nq with
    | true=>rfl
    | false =>
      simp only [cond_false];rw [Qbi a0 (by omega),Qo];rfl
  obtain ⟨a0,a1,a2,a3,a4⟩:=Qpt he h2;have ha:e.A.toNat < x.Nb.length:=by omega
  have htm:Zx x e∈x.Nb:=by rw [Qfw ha];exact List.getElem_mem ha
  have hcl:=h.len htm;have hs8:=hp.s8;have hu:=h.un _ htm;have e2:Y5 p x e=⟨x.Na,x.Nb.set e.A.toNat (trX p (Zx x e) e),x.Nh⟩:=by unfold Y5;rw [if_neg h2]
  rw [e2,decide_eq_false h2,cond_false,Qvk hs,Qo];have hix:∀ {α:Type} (f:Nj->Option α),Option.bind (idx x.Nb e.A) f=f (Zx x e):=fun f=>by rw [Qbi a0 ha,Qo,Qfw ha]
  rw [hix];simp only [hix];unfold ZO trX;simp only [if_neg h2];generalize Zx x e=t at *
  by_cases h0:e.Kind=0
  · simp only [if_pos h0,decide_eq_true h0,cond_true];by_cases hc:t.Nd.length=0
    · rw [if_pos hc,decide_eq_false (show ¬ (0:Int) < t.Nd.length by omega),cond_false,Qsd hs,Qo,Qkk];cases Y6 x e.B<;>rfl
    · rw [if_neg hc,decide_eq_true (show (0:Int) < t.Nd.length by omega)];rfl
  simp only [if_neg h0,decide_eq_false h0,cond_false];by_cases hc:t.Nd.length=0
  · rw [decide_eq_true (show (t.Nd.length:Int)=0 by omega),if_pos hc];rfl
  rw [decide_eq_false (show ¬ (t.Nd.length:Int)=0 by omega),cond_false,if_neg hc];have hu2:1<=t.Nk/\t.Nk<=t.Nd.length:=by
    rcases hu with ⟨h3,_⟩ | h3
    · rw [h3] at hc;exact absurd rfl hc
    · exact h3
  by_cases h1:e.Kind=1
  · simp only [if_pos h1,decide_eq_true h1,cond_true];obtain ⟨b0,b1⟩:=a3 h1;rw [Qbi b0 b1,Qo,<-Qib b1];have hr:JM p e∈p.Ni:=by rw [Qib b1];exact List.getElem_mem b1
    generalize JM p e=r at *
    have hr2:=hp.r2 r hr;have hr8:=hp.r8 r hr;have hrn:=hp.rn r hr;have hrx:=hp.rx r hr;rw [QHg (show 0 < r.Nc.length by omega),Qo,
      show w64 ((t.Nd.length:Int) - 1)=((t.Nd.length - 1:Nat):Int) by rw [YY (by omega)];omega,XA (show t.Nd.length - 1 < t.Nd.length by omega),Qo,Qwh (by omega) (by omega)]
    by_cases h3:r.Nc.head?=t.Nd.getLast?
    · rw [if_pos h3,decide_eq_true h3,Bool.not_true,cond_false];have l0:loop (Qmq r x x) 1=some (if (r.Nc.drop 1).any (Y6 x)=true then .inl (.inl (x,17)) else .inr ()) :=
        QJx r.Nc (Y6 x) _ (by omega) (fun k hk _=>by
          unfold Qmq;rw [XZ hk,cond_true,XA hk,Qo,Qsd hs,Qo,Qkk,X1 k (by omega)]) (by
          unfold Qmq;rw [X2];rfl)
      have hlen:(r.Nr.zip x.Na).length=r.Nr.length:=by simp [hrn,hsl]
      have l1:loop (Qhx r x x) 0=some (if (r.Nr.zip x.Na).any Qcf=true then .inl (.inl (x,13)) else .inr ()):=by
        rw [Zb (step:=Qhx r x x) (r.Nr.zip x.Na) Qcf (fun _ _=>.inl (x,13)) (fun k hk=>by
          rw [hlen] at hk;unfold Qhx;rw [XZ hk,cond_true,XA hk,Qo,XA (show k < x.Na.length by omega),X1 k (by omega)];simp only [List.getElem_zip,Qcf];cases decide (r.Nr[k]=-1)<;>rfl) (by
          rw [hlen];unfold Qhx;rw [X2];rfl)]
        rcases Js (p:=Qcf) (res:=fun _ _=>(.inl (x,13):(Ng×Int)⊕((List Int)×Int))) (r.Nr.zip x.Na) 0 with ⟨k1,k2⟩ | ⟨j,y,k1,k2,k3⟩
        · rw [k1,k2];rfl
        · rw [k1,k3];rfl
      rw [l0,l1,QDu hrn hsl hrx];cases hb:(r.Nc.drop 1).any (Y6 x) with
      | true=>rfl
      | false =>
        cases hl:Zs p x.Na r r.Nc with
        | false=>rfl
        | true =>
          simp only [Bool.not_true,Bool.false_eq_true,if_false,Qo,Xv,cond_false,cond_true,if_true];rw [Qjv (by omega),Qo,Qdi _ (by omega),Qo,JS (by simp;omega)];rfl
    · rw [if_neg h3,decide_eq_false h3];rfl
  simp only [if_neg h1,decide_eq_false h1,cond_false];by_cases h3:e.Kind=3
  · simp only [if_pos h3,decide_eq_true h3,cond_true];rw [if_neg (show ¬ e.Kind=4 by omega),if_pos (show e.Kind=3\/e.Kind=5 from .inl h3),YY (by omega)];by_cases h5:t.Nk < t.Nd.length
    · rw [if_pos h5,decide_eq_false (show ¬ t.Nk=t.Nd.length by omega)];rfl
    · rw [if_neg h5,decide_eq_true (show t.Nk=t.Nd.length by omega)];rfl
  simp only [if_neg h3,decide_eq_false h3,cond_false];by_cases h4:e.Kind=4
  · simp only [if_pos h4,decide_eq_true h4,cond_true];rw [YY (by omega)];by_cases h5:1 < t.Nk
    · rw [if_pos h5,decide_eq_false (show ¬ t.Nk=1 by omega),cond_false,Qjv (by omega),Qo,Qdi _ (by simp;omega)];rfl
    · rw [if_neg h5,decide_eq_true (show t.Nk=1 by omega)];rfl
  simp only [if_neg h4,decide_eq_false h4,cond_false];by_cases h5:e.Kind=5
  · simp only [if_pos h5,decide_eq_true h5,cond_true];rw [if_pos (show e.Kind=3\/e.Kind=5 from .inr h5)];by_cases h6:t.Nk < t.Nd.length
    · rw [if_pos h6,decide_eq_false (show ¬ t.Nk=t.Nd.length by omega),cond_false,show w64 ((t.Nd.length:Int) - 1)=((t.Nd.length - 1:Nat):Int) by rw [YY (by omega)];omega,Qbg (by omega),Qo,Qdi _ (by simp;omega)];rfl
    · rw [if_neg h6,decide_eq_true (show t.Nk=t.Nd.length by omega)];rfl
  simp only [if_neg h5,decide_eq_false h5,cond_false];rw [if_neg (show ¬ (e.Kind=3\/e.Kind=5) by omega),decide_eq_true (show e.Kind=6 by omega),cond_true];by_cases h6:t.Nd.length=1
  · rw [if_pos h6,decide_eq_false (show ¬ (1:Int) < t.Nd.length by omega)];rfl
  · rw [if_neg h6,decide_eq_true (show (1:Int) < t.Nd.length by omega)];rfl
theorem QOk {p:Nf} (hS:PlantS p) (hp:PlantOk p) {x:Ng} (h:StateOk p x) (e:Nl):Qme p x e=some (if YU p x e=0 then (Y5 p x e,0) else (x,YU p x e)):=by
 unfold Qme YU;rw [QOn hS,Qo];by_cases h1:Zp p e=0
 ·rw [if_pos h1,decide_eq_true h1,Bool.not_true,cond_false,QOs hp h h1,Qo]
 ·rw [if_neg h1,decide_eq_false h1,if_neg h1];rfl
theorem QOl {p:Nf} (h:PlantS p):Qmf p=some (Z8 p):=by
 have h1:=h.sw;have h2:=h.tr;unfold Qmf;rw [Qlp _ _ (by omega),Qo,Qlp _ _ (by omega),Qo];rfl
theorem Qzc {p:Nf} (hS:PlantS p) (hp:PlantOk p) (l:List Nl) (hl:l.length < 1000):∀ (m:List Nl) (k:Nat) (x:Ng),m=l.drop k->k<=l.length->StateOk p x ->
  loop (Qhw l p) ((k:Int),x.Na,x.Nb,x.Nh)=some (match evs p x k m with | .inl y=>.inr (y.Na,y.Nb,y.Nh) | .inr (i,c)=>.inl (Z5,(i:Int),c))
 | [],k,x,hm,hk,h=>by
  have:k=l.length:=by
   have:=congrArg List.length hm;simp at this;omega
  subst this;refine JH ?_;unfold Qhw;simp only [X2];rfl
 | e::m,k,x,hm,hk,h=>by
  have hlt:k < l.length:=by
   have:=congrArg List.length hm;simp at this;omega
  rw [List.drop_eq_getElem_cons hlt] at hm;obtain ⟨he,hm⟩:=List.cons.inj hm;have st:Qhw l p ((k:Int),x.Na,x.Nb,x.Nh)=if YU p x e=0 then some (.inl (((k+1:Nat):Int),(Y5 p x e).Na,(Y5 p x e).Nb,(Y5 p x e).Nh)) else some (.inr (.inl (Z5,(k:Int),YU p x e))):=by
   unfold Qhw;simp only [XZ hlt,cond_true,XA hlt,Qo,<-he];rw [QOk hS hp h];by_cases h1:YU p x e=0
   ·simp only [if_pos h1,Qo,decide_true,Bool.not_true,cond_false,X1 k (show k < 4611686018427387904 by omega)]
   ·simp only [if_neg h1,Qo,decide_eq_false h1,Bool.not_false,cond_true];rfl
  rw [Qch];by_cases h1:YU p x e=0
  ·rw [if_pos h1] at st ⊢;rw [Qac st];exact Qzc hS hp l hl m (k+1) _ hm (by omega) (Qkb hp h h1).2.2
  ·rw [if_neg h1] at st ⊢;exact JH st
theorem QOp {p:Nf} (hS:PlantS p) (hp:PlantOk p) (l:List Nl) (hl:l.length < 1000):Qmn p l=some (if l.length<=200 then (match evs p (Z8 p) 0 l with | .inl y=>(y,0,0) | .inr (i,c)=>(Z5,(i:Int),c)) else (Z5,0,8)):=by
 unfold Qmn;by_cases h2:l.length<=200
 ·rw [if_pos h2,decide_eq_false (show ¬ (200:Int) < l.length by omega),cond_false,QOl hS,Qo];have:=Qzc hS hp l hl l 0 (Z8 p) rfl (by omega) Qgl;simp only [Int.natCast_zero] at this;rw [this,Qo];cases evs p (Z8 p) 0 l with
  | inl y=>rfl
  | inr q=>rfl
 ·rw [if_neg h2,decide_eq_true (show (200:Int) < l.length by omega)];rfl
/-! ### All events -/
/-! ### What lies in a list and meets a test -/
end Go.Gw

end
section
set_option maxRecDepth 4096
namespace Go.Gw
open Go
attribute [local irreducible] loop
theorem QAl {α:Type} {p:α->Bool}:∀ (l:List α) (m:Nat),(Yi p (fun k _=>(k:Int)) m l=.inr ()/\l.any p=false)\/∃ j,∃ h:j < l.length,Yi p (fun k _=>(k:Int)) m l=.inl ((m+j:Nat):Int)/\p l[j]=true
 | [],m=>.inl ⟨rfl,rfl⟩
 | x::l,m=>by
  by_cases hp:p x=true
  ·exact .inr ⟨0,by simp,by simp [Yi,hp],by simpa using hp⟩
  ·rcases QAl (p:=p) l (m+1) with ⟨h1,h2⟩ | ⟨j,hj,h1,h2⟩
   ·exact .inl ⟨by simp [Yi,hp,h1],by simp [hp,h2]⟩
   ·exact .inr ⟨j+1,by simpa using hj,by simp only [Yi,hp];rw [h1];simp;omega,by simpa using h2⟩
theorem QHo {α:Type} (p:α->Bool) (l:List α):(Qab p l=-1/\l.any p=false)\/∃ j,∃ h:j < l.length,Qab p l=(j:Int)/\p l[j]=true:=by
 unfold Qab;rcases QAl (p:=p) l 0 with ⟨h1,h2⟩ | ⟨j,hj,h1,h2⟩
 ·exact .inl ⟨by rw [h1],h2⟩
 ·exact .inr ⟨j,hj,by rw [h1];simp,h2⟩
theorem Qyk {α:Type} {l:List α} (h:l.Nodup) {i j:Nat} (hi:i < l.length) (hj:j < l.length) (e:l[i]=l[j]):i=j:=by
 unfold List.Nodup at h;rw [List.pairwise_iff_getElem] at h;rcases Nat.lt_trichotomy i j with h1 | h1 | h1
 ·exact absurd e (h i j hi hj h1)
 ·exact h1
 ·exact absurd e.symm (h j i hj hi h1)
theorem QHs {p:Nf} (hp:PlantOk p) {x:Ng} (h2:x.Na.length=p.Na.length) (a b:Int):Qlc (some ⟨p,x⟩) a b=some (Qas p x.Na a b):=by
  have hw4:=hp.w4;have hr10:=hp.r10;have hs8:=hp.s8;unfold Qlc Qas;rw [Qo,Zb p.Ni (fun r=>Qag r a b&&Zs p x.Na r [a,b]) (fun _ _=>true),Qo]
  · rcases Js (p:=fun r=>Qag r a b&&Zs p x.Na r [a,b]) (res:=fun _ _=>true) p.Ni 0 with ⟨k1,k2⟩ | ⟨j,y,k1,k2,k3⟩
    · rw [k1,k2];rfl
    · rw [k1,k3];rfl
  · intro k hk;have hr:=List.getElem_mem hk;unfold Qqz;simp only [XZ hk,cond_true,XA hk,Qo];generalize p.Ni[k]=r at hr ⊢;have hr2:=hp.r2 r hr;have hr8:=hp.r8 r hr;have hrd:=hp.rd r hr;rw [Qwq _ _ (by omega),Qo,Qwu (hp.rn r hr) h2 (by omega) (by simp),X1 k (by omega)];rcases QHo (fun x=>decide (a=x)) r.Nc with ⟨h3,h4⟩ | ⟨j,hj,h3,h4⟩
    · rw [h3];have h5:Qag r a b=false:=by
        cases hb:Qag r a b with
        | false=>rfl
        | true =>
          obtain ⟨j,hj,h6,_⟩:=pairB_iff.1 hb;rw [Qup,decide_eq_false_iff_not] at h4;exact absurd (h6▸List.getElem_mem _) h4
      rw [h5];rfl
    · rw [h3];have h4:a=r.Nc[j]:=by simpa using h4
      rw [decide_eq_true (show (0:Int)<=(j:Int) by omega),X1 j (by omega)];by_cases h5:j+1 < r.Nc.length
      · rw [XZ h5];simp only [Bool.and_self,cond_true];rw [XA h5,Qo];have h6:Qag r a b=decide (r.Nc[j+1]=b):=by
          rw [Bool.eq_iff_iff,pairB_iff,decide_eq_true_eq];constructor
          · rintro ⟨i,hi,h7,h8⟩;have:i=j:=Qyk hrd (by omega) hj (h7.trans h4);subst this;exact h8
          · intro h7;exact ⟨j,h5,h4.symm,h7⟩
        rw [h6];cases decide (r.Nc[j+1]=b)<;>rfl
      · rw [decide_eq_false (show ¬ ((j+1:Nat):Int) < r.Nc.length by omega)];have h6:Qag r a b=false:=by
          cases hb:Qag r a b with
          | false=>rfl
          | true =>
            obtain ⟨i,hi,h7,_⟩:=pairB_iff.1 hb;have:i=j:=Qyk hrd (by omega) hj (h7.trans h4);omega
        rw [h6];rfl
  · unfold Qqz;simp only [X2];rfl
theorem Qvz {α:Type} (g:α->Bool):∀ (l:List α) (k:Nat) (b:Bool),fld (fun (_:Nat) (a:Bool) (x:α)=>a||g x) k b l=(b||l.any g)
 | [],k,b=>by simp [fld]
 | x::l,k,b=>by
  unfold fld;rw [Qvz g l];simp [Bool.or_assoc]
theorem QDo (l:List Nj) (h:∀ t∈l,t.Nd.length < 1000) (hl:l.length < 1000) (s:Int) (b:Bool):loop (Qhe s l) (b,0)=some (b||l.any fun o=>decide (s∈o.Nd)):=by
 have:=(QJw (step:=Qhe s l) l (fun _ (c:Bool) o=>c||decide (s∈o.Nd)) (fun c k=>(c,(k:Int))) (fun c=>c) (fun _ _=>True) b trivial (fun k hk c _=>by
  refine ⟨?_,trivial⟩;unfold Qhe;simp only [XZ hk,cond_true,XA hk,Qo,X1 k (show k < 4611686018427387904 by omega),Qeo _ _ (show l[k].Nd.length < 1000000 by have:=h _ (List.getElem_mem hk);omega)];cases c<;>rfl) (fun c _=>by
  unfold Qhe;simp only [X2];rfl)).1
 rw [Qvz] at this;exact this
theorem QTd (t:Nj):Jk t.Nk (if (t.Nd.length:Int) < 1 then (t.Nd.length:Int) else 1) (t.Nd.length:Int)=some (Qbu t):=by
 rw [Qtw];congr 1;unfold Qbu;by_cases h0:t.Nd.length=0
 ·rw [if_pos h0,if_pos (show (t.Nd.length:Int) < 1 by omega),Bool.eq_iff_iff];simp only [Bool.and_eq_true,decide_eq_true_eq];omega
 ·rw [if_neg h0,if_neg (show ¬ (t.Nd.length:Int) < 1 by omega)]
theorem QHr {p:Nf} (hS:PlantS p) (hp:PlantOk p) {x:Ng} (h:StateS x) (h2:x.Na.length=p.Na.length) (n:Nat) (hn:n < x.Nb.length):Qla (some ⟨p,x⟩) (n:Int)=some (Qak p x n):=by
  have hs:Qak p x n=tsE p x n x.Nb[n]:=Z9 _ _ _ hn;have hc:=h.ch _ (List.getElem_mem hn);have hl:=h.tr;rw [hs];unfold Qla tsE;simp only [Qo,XA hn];rw [QTd,Qo];cases Qbu x.Nb[n]
  · rfl
  simp only [Bool.not_true,cond_false,cond_true];have key:loop (Qkz x.Nb[n] (some ⟨p,x⟩) (n:Int)) 0=some (match XK (Qbf p x n x.Nb[n]) x.Nb[n].Nd.length with | some i=>.inl (Qbf p x n x.Nb[n] i) | none=>.inr ()) :=
    Qat (fun k=>(k:Int)) x.Nb[n].Nd.length (Qbf p x n x.Nb[n]) (fun _ e=>e) () (fun k hk _=>by
      have hs:Qbf p x n x.Nb[n] k=chE p x n x.Nb[n] k x.Nb[n].Nd[k]:=Z9 _ _ _ hk;rw [hs];unfold Qkz chE;simp only [XZ hk,cond_true,XA hk,Qo];rw [Qbg (by omega),Qo,Qeo _ _ (by simp;omega),Qo,Qbg (by omega),Qo,
        QDo _ (fun t ht=>h.ch t (List.mem_of_mem_take ht)) (by simp;omega),Qo,Qzz hS,Qo,Yt,Qo,X1 k (by omega)]
      generalize (decide (x.Nb[n].Nd[k]∈x.Nb[n].Nd.take k)||(x.Nb.take n).any fun o=>decide (x.Nb[n].Nd[k]∈o.Nd))=bb;by_cases hk0:k=0
      · subst hk0;simp only [Int.natCast_zero,decide_true,Bool.not_true,cond_false,Qo,Bool.true_or,if_true,Yt,cond_true];rw [Zz _ (by simp),Qo,Qeu];cases Yx p x.Nb[n].Nd[0]<;>cases bb<;>rfl
      · rw [decide_eq_false (show ¬ (k : Int) = 0 by omega), show w64 ((k : Int) - 1) = ((k - 1 : Nat) : Int) by rw [YY (by omega)]; omega,
          show (if (0:Int) < ((k - 1:Nat):Int) then ((k - 1:Nat):Int) else 0)=((k - 1:Nat):Int) by split<;>omega]
        simp only [Bool.not_false,cond_true,XA (show k - 1 < x.Nb[n].Nd.length by omega),Qo,QHs hp h2,if_neg hk0,List.getElem?_eq_getElem (show k - 1 < x.Nb[n].Nd.length by omega),Option.getD_some,Bool.false_or,Yt];rw [Zz _ (by simp),Qo,Qeu];cases Yx p x.Nb[n].Nd[k]<;>cases bb<;>cases Qas p x.Na x.Nb[n].Nd[k - 1] x.Nb[n].Nd[k]<;>rfl) (fun _=>by
      unfold Qkz;simp only [X2];rfl)
  rw [key,Qo];cases XK (Qbf p x n x.Nb[n]) x.Nb[n].Nd.length<;>rfl
theorem QOe (l:List Int) (hl:l.length < 1000):Qnm l=some (!(l.all Y4)):=by
 unfold Qnm Qsw;rw [Zb l (fun n=>!(Y4 n)) (fun k _=>(k:Int)),Qo,Qdu,Qo,Qin]
 ·rw [List.all_eq_not_any_not,Bool.not_not]
 ·intro k hk;unfold Qsv;rw [XZ hk,XA hk,X1 k (by omega)];rfl
 ·unfold Qsv;rw [X2];rfl
def Qau (p:Nf) (x:Ng):Int:=if (ZB p).2=0 then Qnp p x else (ZB p).2
theorem QNs {p:Nf} (hS:PlantS p) {x:Ng} (h:StateS x):Qli p x=some (if Qau p x=0 then (some ⟨p,x⟩,0) else (none,Qau p x)):=by
  have h1:=h.sw;have h2:=h.tr;have h3:=hS.sw;have h4:=hS.tr;unfold Qli Qau;rw [QOe _ (by omega),Qo,Qyz hS,Qo,Yt,Qo,Bool.not_not];by_cases hp0:(ZB p).2=0
  · have hp:=Qmc hp0;simp only [if_pos hp0,hp0];unfold Qnp;by_cases hl:x.Na.length=p.Na.length/\x.Nb.length=p.Nb.length
    · rw [if_pos hl,decide_eq_true (show (x.Na.length:Int)=p.Na.length by omega),decide_eq_true (show (x.Nb.length:Int)=p.Nb.length by omega)];have e1:∀ (f:Bool->Option (Option Nm×Int)),(Option.bind (bif x.Na.all Y4 then Qcl x.Nh else some default) f)=f (bif x.Na.all Y4 then Qcd x.Nh else default):=fun f=>by
        cases x.Na.all Y4<;>rfl
      rw [e1,Yt,Qo,Zz _ (by simp),Qo,Qeu];cases ha:x.Na.all Y4
      · rfl
      · cases hb:Qcd x.Nh
        · rfl
        · simp only [Bool.and_self,cond_true,ne_eq,not_true_eq_false,if_false,decide_true,Bool.not_true,cond_false];have key:loop (Qlh p x) 0=some (match XK (Qak p x) x.Nb.length with | some i=>.inl (none,Qak p x i) | none=>.inr ()) :=
            Qat (fun k=>(k:Int)) x.Nb.length (Qak p x) (fun _ e=>(none,e)) () (fun k hk _=>by
              unfold Qlh;rw [XZ hk,cond_true,QHr hS hp h hl.1 k hk,Qo,X1 k (by omega)];by_cases h5:Qak p x k=0
              · rw [if_pos h5,decide_eq_true h5];rfl
              · rw [if_neg h5,decide_eq_false h5];rfl) (fun _=>by
              unfold Qlh;rw [X2];rfl)
          rw [key,Qo];cases hf:XK (Qak p x) x.Nb.length with
          | some i =>
            have h5:=(Qaq hf).2.1;simp [Xv,h5]
          | none=>rfl
    · rw [if_neg hl, show (decide ((x.Na.length : Int) = p.Na.length) && decide ((x.Nb.length : Int) = p.Nb.length)) = false by
        rw [Bool.and_eq_false_iff,decide_eq_false_iff_not,decide_eq_false_iff_not];omega]
      have e1:∀ (f:Bool->Option (Option Nm×Int)),(Option.bind (bif x.Na.all Y4 then Qcl x.Nh else some default) f)=f (bif x.Na.all Y4 then Qcd x.Nh else default):=fun f=>by
        cases x.Na.all Y4<;>rfl
      rw [e1,Yt,Qo,Zz _ (by simp),Qo,Qeu];rfl
  · simp only [if_neg hp0];have e1:∀ (f:Bool->Option (Option Nm×Int)),(Option.bind (bif x.Na.all Y4 then Qcl x.Nh else some default) f)=f (bif x.Na.all Y4 then Qcd x.Nh else default):=fun f=>by
      cases x.Na.all Y4<;>rfl
    rw [e1,Yt,Qo,Zz _ (by simp),Qo,Qeu,if_pos hp0,decide_eq_false hp0];rfl
theorem QNu {p:Nf} {x:Ng} (h:Qau p x=0):PlantOk p/\StateOk p x/\(ZB p).2=0:=by
 unfold Qau at h;by_cases hp0:(ZB p).2=0
 ·rw [if_pos hp0] at h;exact ⟨Qmc hp0,state_iff.1 h,hp0⟩
 ·rw [if_neg hp0] at h;exact absurd h hp0
theorem QNt {p:Nf} {x:Ng} (h0:(ZB p).2=0) (h:StateOk p x):Qau p x=0:=by
 unfold Qau;rw [if_pos h0];exact state_iff.2 h
def Qow (p:Nf) (x:Ng) (e:Nl):Ng×Int:=if Qau p x=0 then (if YU p x e=0 then (Y5 p x e,0) else (Z5,YU p x e)) else (Z5,Qau p x)
theorem QHq {p:Nf} (hS:PlantS p) {x:Ng} (h:StateS x) (e:Nl):Qks p x e=some (Qow p x e):=by
 unfold Qks Qow;rw [QNs hS h,Qo];by_cases h0:Qau p x=0
 ·obtain ⟨hp,hx,_⟩:=QNu h0;simp only [if_pos h0,decide_true,cond_true];rw [Qvu hS,Qo,Qo];unfold YU;by_cases h1:Zp p e=0
  ·obtain ⟨r,hr,h2,h3⟩:=Qut hp hx h1;simp only [if_pos h1,decide_eq_true h1,cond_true];rw [hr,Qo,Qo,h2];by_cases h4:ZO p x e=0
   ·rw [if_pos h4,h3 h4,decide_eq_true h4];simp only [Bool.not_true,cond_false];rw [QBj p ((QAo hp hx h1 h4).s hp)];rfl
   ·rw [if_neg h4,decide_eq_false h4];rfl
  ·simp only [if_neg h1,decide_eq_false h1,cond_false,Qo,Bool.not_false,cond_true];rfl
 ·simp only [if_neg h0,decide_eq_false h0,cond_false,Qo,Bool.not_false,cond_true];rfl
/-! ### Telegrams -/
end Go.Gw

end
section
set_option maxRecDepth 4096
namespace Go.Gw
open Go
attribute [local irreducible] loop
theorem Qfr (x:Ng):Ng.mk x.Na x.Nb x.Nh=x:=rfl
theorem Qub:StateS Z5:=⟨by simp [Z5],by simp [Z5],fun t ht=>by simp [Z5] at ht⟩
theorem QVe:(Ng.mk ([]:List Int) ([]:List Nj) 0)=Z5:=rfl
theorem Qie {x:Ng} (h:StateS x):Qdq x x=some true:=by rw [QQj h,decide_eq_true rfl]
end Go.Gw

end
