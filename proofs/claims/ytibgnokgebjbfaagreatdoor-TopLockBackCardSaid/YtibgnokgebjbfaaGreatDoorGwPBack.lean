/- The law TopLockBack in plain words. No condition. -/
import Derived.Test.YtibgnokgebjbfaaGreatDoorGwLawTopLockBack
import Derived.Test.YtibgnokgebjbfaaGreatDoorGwLck16
set_option linter.unusedVariables false
set_option linter.unusedSimpArgs false
set_option linter.unusedSectionVars false
set_option maxRecDepth 4096
namespace Go.Gw
open Go
attribute [local irreducible] loop
theorem QGj:Qoq=some true:=by decide +kernel
theorem QMd {p:Ng} {x:Nh} {e:Nl} (h:e∈Qbk p x):Ym p e=0/\Yt p x e=0:=by
 unfold Qbk at h;rw [List.mem_filter,decide_eq_true_eq] at h;exact ⟨QDc h.1,h.2⟩
theorem Qec {p:Ng} {x:Nh} {e:Nl} (h1:Ym p e=0):evE p x e=Yt p x e:=by
 unfold evE;rw [if_pos h1]
theorem Qut {β:Type} (f:Nat->List β) (M n:Nat) (h:∀ k,(f k).length<=M):((List.range n).flatMap f).length<=n * M:=by
 induction n with
 | zero=>simp
 | succ n ih =>
  rw [List.range_succ,List.flatMap_append,List.length_append,Nat.succ_mul];have:=h n;have e:([n]:List Nat).flatMap f=f n:=by simp
  rw [e];omega
theorem QDa {p:Ng} (hp:PlantOk p):(JS p).length<=200:=by
 have hs8:=hp.s8;have ht3:=hp.t3;have hw4:=hp.w4;have hr10:=hp.r10;have g:∀ k,((List.range (YF p k)).flatMap fun a=>(List.range (X1 p k)).flatMap fun b=>[ZF k a b]).length<=YF p k * X1 p k:=fun k =>
  Qut _ _ _ fun a=>by
   have:=Qut (fun b=>[ZF k a b]) 1 (X1 p k) fun _=>by simp
   omega
 have g0:=g 0;have g1:=g 1;have g2:=g 2;have g3:=g 3;have g4:=g 4;have g5:=g 5;have g6:=g 6;have hA:∀ k,k≠2->YF p k<=3:=fun k hk=>by unfold YF;rw [if_neg hk];omega
 have hm:∀ {a b c d:Nat},a<=c->b<=d->a * b<=c * d:=fun h1 h2=>Nat.mul_le_mul h1 h2
 have b0:YF p 0 * X1 p 0<=3 * 8:=hm (hA 0 (by omega)) (by unfold X1;simp;omega);have b1:YF p 1 * X1 p 1<=3 * 10:=hm (hA 1 (by omega)) (by unfold X1;simp;omega);have b2:YF p 2 * X1 p 2<=4 * 2:=hm (by unfold YF;simp;omega) (by unfold X1;simp);have b3:YF p 3 * X1 p 3<=3 * 1:=hm (hA 3 (by omega)) (by unfold X1;simp);have b4:YF p 4 * X1 p 4<=3 * 1:=hm (hA 4 (by omega)) (by unfold X1;simp);have b5:YF p 5 * X1 p 5<=3 * 1:=hm (hA 5 (by omega)) (by unfold X1;simp);have b6:YF p 6 * X1 p 6<=3 * 1:=hm (hA 6 (by omega)) (by unfold X1;simp);have hr:(List.range 7)=[0,1,2,3,4,5,6]:=rfl;unfold JS;rw [hr];simp only [List.flatMap_cons,List.flatMap_nil,List.length_append,List.length_nil];omega
theorem QPv {p:Ng} (hS:PlantS p) {x:Nh} (hX:StateS x) (h0:Z6 p x=0) {v:Nl} (ev:Ym p v=0) (kv:v.Kind=0\/v.Kind=1) (hv:Yt p x v=17):Qjo p x v=some true:=by
 obtain ⟨hp,hx,hp0⟩:=Qqr h0;have hl:(Qbk p x).length<=200:=Nat.le_trans (List.length_filter_le _ _) (QDa hp);unfold Qjo;simp only [Qgc hS,Qgd hX,QFy hS hX,Qq,h0,if_true,decide_true,Bool.not_true,Bool.false_or,decide_eq_false (show ¬ (200:Int) < (Qbk p x).length by omega),cond_false];have key:loop (Qjn p x v (Qbk p x,0)) 0=some (.inr ()):=Qep (fun k=>(k:Int)) (Qbk p x).length (fun k hk=>by
  obtain ⟨e1,e2⟩:=QMd (List.getElem_mem hk);unfold Qjn;simp only [XL hk,cond_true,Xt hk,Qq,XE k (show k < 4611686018427387904 by omega)];generalize (Qbk p x)[k]=w at e1 e2 ⊢;by_cases h4:4<=w.Kind
  ·simp [h4]
  rw [decide_eq_false h4];simp only [Bool.not_false,cond_true,Qq,Bool.true_and,Bool.false_or];by_cases h5:w.Kind=2
  ·have hy:=Qib hp hx e1 e2;have hb:=Qua hp hx kv ev e1 e2 (by omega) (.inl h5) hv;rw [decide_eq_true h5];simp only [Bool.not_true,cond_false,Qq,Bool.false_and,Qgc hS,Qgd hX,Qeh hS hX];unfold Qbu;simp only [h0,Qec e1,e2,if_true,decide_true,Bool.not_true,cond_false,Qhz];rw [Qeh hS (hy.s hp),Qq];unfold Qbu;rw [if_pos (Qlb hp0 hy),Qec ev,hb];rfl
  ·rw [decide_eq_false h5];simp only [Bool.not_false,cond_true,Qq,Bool.true_and];by_cases h6:w.A=v.A
   ·rw [decide_eq_true h6];rfl
   ·have hy:=Qib hp hx e1 e2;have hb:=Qua hp hx kv ev e1 e2 (by omega) (.inr h6) hv;rw [decide_eq_false h6];simp only [cond_false,Qgc hS,Qgd hX,Qeh hS hX,Qq];unfold Qbu;simp only [h0,Qec e1,e2,if_true,decide_true,Bool.not_true,cond_false,Qhz];rw [Qeh hS (hy.s hp),Qq];unfold Qbu;rw [if_pos (Qlb hp0 hy),Qec ev,hb];rfl) (by
  unfold Qjn;simp only [XM];rfl)
 rw [key];rfl
theorem Qtq {p:Ng} (hS:PlantS p) (hp:PlantOk p) (hp0:(ZJ p).2=0) {y:Nh} (hy:StateOk p y) {e:Nl} {kd:Int} {n:Int} {i:Nat} (hi:(i:Int) < n) (hi2:i < 1000) (h1:Ym p ⟨kd,e.A,0⟩=0) (h2:Yt p y ⟨kd,e.A,0⟩=0) :
  Qcd p e n kd ((i:Int),y.Nc,y.Nb,y.Nf)=some (.inl (((i+1:Nat):Int),(XX p y ⟨kd,e.A,0⟩).Nc,(XX p y ⟨kd,e.A,0⟩).Nb,(XX p y ⟨kd,e.A,0⟩).Nf)):=by
 unfold Qcd;simp only [decide_eq_true hi,cond_true,Qhz,Qgc hS,Qgd (hy.s hp),Qeh hS (hy.s hp),Qq];unfold Qbu;rw [if_pos (Qlb hp0 hy),Qec h1,if_pos h2,XE i (by omega)];rfl
theorem Qtp {p:Ng} {e:Nl} {kd:Int} {n:Nat} {y:Nh}:Qcd p e (n:Int) kd ((n:Int),y.Nc,y.Nb,y.Nf)=some (.inr (.inr (y.Nc,y.Nb,y.Nf))):=by
 unfold Qcd;simp only [XM];rfl
theorem Qtr {p:Ng} (hS:PlantS p) (hp:PlantOk p) (hp0:(ZJ p).2=0) {x:Nh} (hx:StateOk p x) {e:Nl} (ke:e.Kind=1) (ee:Ym p e=0) (hu:1<=(XC x e).Nk/\(XC x e).Nk<=(XC x e).Nd.length) (hn:(X5 p e).Na.length<=8):∀ (k i:Nat),i+k=(X5 p e).Na.length - 1->StateOk p (ZO p x e k) ->
  loop (Qcd p e (((X5 p e).Na.length - 1:Nat):Int) 5) ((i:Int),(ZO p x e k).Nc,(ZO p x e k).Nb,(ZO p x e k).Nf)=some (.inr (x.Nc,x.Nb,x.Nf))
 | 0,i,hi,hy=>by
  obtain ⟨a0,a1,_,_,_⟩:=Qak ee (by omega);have ha:e.A.toNat < x.Nb.length:=by rw [hx.tr];exact a1
  rw [QBd ha];obtain rfl:i=(X5 p e).Na.length - 1:=by omega
  exact Qam Qtp
 | k+1,i,hi,hy=>by
  obtain ⟨h1,h2,h3⟩:=QBe hp hx ke ee (show k+1<=(X5 p e).Na.length - 1 by omega) hu;rw [J6 (Qtq hS hp hp0 hy (kd:=5) (show (i:Int) < (((X5 p e).Na.length - 1:Nat):Int) by omega) (by omega) h1 h2)];have h3':XX p (ZO p x e (k+1)) ⟨5,e.A,0⟩=ZO p x e k:=h3;rw [h3'];exact Qtr hS hp hp0 hx ke ee hu hn k (i+1) (by omega) (by
   have:=Qib hp hy h1 h2;rwa [h3] at this)
theorem QAl (p:Ng) (x:Nh) (e:Nl):Qop p x e=some true:=by
  unfold Qop;rw [QGj,Qq];simp only [Bool.not_true,cond_false];refine Qvm (fun b=>rfl) rfl fun hS hX _=>?_;simp only [Bool.not_true,Bool.or_self,Bool.not_false,cond_true,QMo hS,Qq,Bool.false_or];by_cases hp0:(ZJ p).2=0
  · have hp:=Qqt hp0;simp only [hp0,decide_true,Bool.not_true,Bool.not_false,cond_true,QMq hS hp hX,Qq,Bool.false_or];by_cases hs0:Qdk p x=0
    · have hx:=state_iff.1 hs0;have h0:Z6 p x=0:=Qlb hp0 hx;simp only [hs0,decide_true,Bool.not_true,Bool.not_false,cond_true,QMl hS,Qq,Bool.false_or];by_cases h1:Ym p e=0
      · simp only [h1,decide_true,Bool.not_true,Bool.false_or];by_cases hk:e.Kind=1\/e.Kind=0
        · have hb : (!decide (e.Kind = 1) && !decide (e.Kind = 0)) = false := by
            rcases hk with h | h<;>simp [h]
          rw [hb,cond_false];simp only [Qgc hS,Qgd hX,Qeh hS hX,Qq];unfold Qbu;rw [if_pos h0,Qec h1];by_cases h3:Yt p x e=0
          · have hy:=Qib hp hx h1 h3;simp only [if_pos h3,show decide ((0:Int)=17)=false from rfl,cond_false,decide_true,Bool.not_true];rcases hk with h4 | h4
            · obtain ⟨_,_,_,a3,_⟩:=Qak h1 (by omega);obtain ⟨b0,b1⟩:=a3 h4;have hr:X5 p e∈p.Nj:=by rw [Qho b1];exact List.getElem_mem b1
              have hr2:=hp.r2 _ hr;have hr8:=hp.r8 _ hr;have hs8:=hp.s8;obtain ⟨hc,_⟩:=QNf h4 h3;obtain ⟨a0,a1,_,_,_⟩:=Qak h1 (by omega);have ha:e.A.toNat < x.Nb.length:=by rw [hx.tr];exact a1
              have hu:1<=(XC x e).Nk/\(XC x e).Nk<=(XC x e).Nd.length:=by
                rcases hx.un (XC x e) (by rw [Qaw ha];exact List.getElem_mem ha) with ⟨h5,_⟩ | h5
                · rw [h5] at hc;exact absurd rfl hc
                · exact h5
              rw [decide_eq_true h4,cond_true,Qeg b0 b1,Qq,<-Qho b1,Qq];simp only;rw [show w64 (((X5 p e).Na.length:Int) - 1)=(((X5 p e).Na.length - 1:Nat):Int) by rw [Zg (by omega)];omega];have:=Qtr hS hp hp0 hx h4 h1 hu (by omega) ((X5 p e).Na.length - 1) 0 (by omega) (by rw [Qto h4];exact hy);rw [Qto h4] at this;simp only [Int.natCast_zero] at this;rw [this,Qq];simp only [Xj,Qhz,Qyh hX,Qq]
            · obtain ⟨t1,t2,t3⟩:=QQf hx h4 h1 h3;rw [decide_eq_false (show ¬ e.Kind=1 by omega),cond_false,Qq];simp only;have s1:=Qtq hS hp hp0 hy (e:=e) (kd:=6) (n:=1) (i:=0) (by omega) (by omega) t1 t2;have t3':XX p (XX p x e) ⟨6,e.A,0⟩=x:=t3;rw [t3'] at s1;have s1':Qcd p e 1 6 (0,(XX p x e).Nc,(XX p x e).Nb,(XX p x e).Nf)=some (.inl (1,x.Nc,x.Nb,x.Nf)):=s1;have s2:loop (Qcd p e 1 6) (1,x.Nc,x.Nb,x.Nf)=some (.inr (x.Nc,x.Nb,x.Nf)):=Qam (Qtp (n:=1));rw [J6 s1',s2,Qq];simp only [Xj,Qhz,Qyh hX,Qq]
          · by_cases h5:Yt p x e=17
            · simp only [if_neg h3,h5,decide_true,cond_true];rw [QPv hS hX h0 h1 (by omega) h5];rfl
            · simp [h3,h5]
        · have hb : (!decide (e.Kind = 1) && !decide (e.Kind = 0)) = true := by
            rw [decide_eq_false (fun h=>hk (.inl h)),decide_eq_false (fun h=>hk (.inr h))];rfl
          rw [hb];rfl
      · simp [h1]
    · simp [hs0]
  · simp [hp0]
end Go.Gw
