/- The law LockNeverShortened in plain words. No condition. -/
import Derived.Test.YteplgmnnkdpmeaaGreatDoorGwLawLockNeverShortened
import Derived.Test.YteplgmnnkdpmeaaGreatDoorGwLck17
set_option linter.unusedVariables false
set_option linter.unusedSimpArgs false
set_option linter.unusedSectionVars false
set_option maxRecDepth 4096
namespace Go.Gw
open Go
attribute [local irreducible] loop
theorem QPf {p:Ng} (hp:PlantOk p) {x:Nh} (h:StateOk p x) (hX:StateS x) {e:Nq} (he:ZU p e=0) (hs:JV p x e=0) (k:Nat) (hk:k < x.Na.length) :
    Qgp e x (Zx p x e).Na (k:Int)=some (.inl ((k+1:Nat):Int)):=by
  have hy:=Qse hp h he hs;have hl:(Zx p x e).Na.length=x.Na.length:=by rw [hy.tr,h.tr]
  have hc:=hX.ch _ (List.getElem_mem hk);have hl2:=hX.tr;unfold Qgp;simp only [XY hk,cond_true,XE hk,XE (show k < (Zx p x e).Na.length by omega),Qp];by_cases hne:e.Kind≠2/\e.A.toNat=k
  · obtain ⟨h2,hA⟩:=hne;obtain ⟨a0,a1,a2,a3,a4⟩:=Qji he h2;have hkA:decide ((k:Int)=e.A)=true:=decide_eq_true (by omega);have hg:(Zx p x e).Na[k]'(by omega)=trX p x.Na[k] e := by
      subst hA;unfold Zx;simp only [if_neg h2,List.getElem_set_self,Qfo hk]
    have ht:ZZ x e=x.Na[k]:=by subst hA;exact Qfo hk
    have hu:=h.un _ (List.getElem_mem hk);rw [hg,hkA,decide_eq_false h2];unfold JV at hs;rw [if_neg h2,ht] at hs;unfold trX;generalize x.Na[k]=t at *
    simp only [Bool.not_true,Bool.or_self,cond_false];by_cases h0:e.Kind=0
    · rw [if_pos h0] at hs;by_cases hc0:t.Nc.length=0
      · simp [h0,hc0,Xl,XK k (show k < 4611686018427387904 by omega)]
      · rw [if_neg hc0] at hs;cases hs
    rw [if_neg h0] at hs;by_cases hc0:t.Nc.length=0
    · rw [if_pos hc0] at hs;cases hs
    rw [if_neg hc0] at hs;have hu2:1<=t.Nf/\t.Nf<=t.Nc.length:=by
      rcases hu with ⟨h3,_⟩ | h3
      · rw [h3] at hc0;exact absurd rfl hc0
      · exact h3
    simp only [if_neg h0,decide_eq_false h0,cond_false];by_cases h1:e.Kind=1
    · obtain ⟨b0,b1⟩:=a3 h1;have hr:JT p e∈p.Ni:=by rw [Qme b1];exact List.getElem_mem b1
      have hr2:=hp.r2 _ hr;simp only [if_pos h1,decide_eq_true h1,cond_true];rw [decide_eq_false (show ¬ ((t.Nc++(JT p e).Nd.drop 1).length:Int)<=t.Nc.length by simp;omega),cond_false,Qbm (by simp),Qp,List.take_left,Qgo _ _ (by omega)];simp [Xl,XK k (show k < 4611686018427387904 by omega)]
    simp only [if_neg h1,decide_eq_false h1,cond_false] at hs ⊢;by_cases h3:e.Kind=3
    · rw [if_neg (show ¬ e.Kind=4 by omega),if_pos (show e.Kind=3\/e.Kind=5 from .inl h3)] at hs;have hx:t.Nf < t.Nc.length:=by
        by_cases h5:t.Nf < t.Nc.length
        · exact h5
        · rw [if_neg h5] at hs;cases hs
      simp only [if_pos h3,decide_eq_true h3,cond_true];rw [Qgo _ _ (by omega),Qp,Zg (x:=t.Nf+1) (by omega),decide_eq_false (show ¬ (t.Nc.length:Int) < t.Nf+1 by omega)];simp [Xl,XK k (show k < 4611686018427387904 by omega)]
    simp only [if_neg h3,decide_eq_false h3,cond_false] at hs ⊢;by_cases h4:e.Kind=4
    · rw [if_pos h4] at hs;have hx:1 < t.Nf:=by
        by_cases h5:1 < t.Nf
        · exact h5
        · rw [if_neg h5] at hs;cases hs
      simp only [if_pos h4,decide_eq_true h4,cond_true];rw [decide_eq_false (show ¬ (t.Nc.length:Int) < 2 by omega),cond_false,Qoo (by omega),Qp,Qgo _ _ (by simp;omega),Qp,Zg (x:=t.Nf - 1) (by omega),decide_eq_false (show ¬ t.Nf - 1 < 1 by omega)];simp [Xl,XK k (show k < 4611686018427387904 by omega)]
    simp only [if_neg h4,decide_eq_false h4,cond_false] at hs ⊢;by_cases h5:e.Kind=5
    · rw [if_pos (show e.Kind=3\/e.Kind=5 from .inr h5)] at hs;have hx:t.Nf < t.Nc.length:=by
        by_cases h6:t.Nf < t.Nc.length
        · exact h6
        · rw [if_neg h6] at hs;cases hs
      simp only [if_pos h5,decide_eq_true h5,cond_true];rw [decide_eq_false (show ¬ (t.Nc.length:Int) < 2 by omega),cond_false,show w64 ((t.Nc.length:Int) - 1)=((t.Nc.length - 1:Nat):Int) by rw [Zg (by omega)];omega,Qbm (by omega),Qp,Qgo _ _ (by simp;omega),Qp,decide_eq_false (show ¬ ((t.Nc.length - 1:Nat):Int) < t.Nf by omega)];simp [Xl,XK k (show k < 4611686018427387904 by omega)]
    rw [if_neg (show ¬ (e.Kind=3\/e.Kind=5) by omega)] at hs;have h6:t.Nc.length=1:=by
      by_cases h6:t.Nc.length=1
      · exact h6
      · rw [if_neg h6] at hs;cases hs
    have hk6:=Qgj he;simp only [if_neg h5,decide_eq_false h5,cond_false,decide_eq_true (show e.Kind=6 by omega),cond_true,h6];simp [Xl,XK k (show k < 4611686018427387904 by omega)]
  · have hg : (Zx p x e).Na[k]'(by omega) = x.Na[k] := by
      unfold Zx;by_cases h2:e.Kind=2
      · simp only [if_pos h2]
      · have:e.A.toNat≠k:=fun h=>hne ⟨h2,h⟩
        simp only [if_neg h2,List.getElem_set_ne this]
    have hb:((!decide ((k:Int)=e.A))||decide (e.Kind=2))=true:=by
      by_cases h2:e.Kind=2
      · simp [h2]
      · obtain ⟨a0,_⟩:=Qji he h2;have:e.A.toNat≠k:=fun h=>hne ⟨h2,h⟩
        rw [decide_eq_false (show ¬ (k:Int)=e.A by omega)];rfl
    rw [hg,hb,cond_true,Qgo _ _ (by omega)];simp [Xl,XK k (show k < 4611686018427387904 by omega)]
theorem QAr (p:Ng) (x:Nh) (e:Nq):Qph p x e=some true:=by
 unfold Qph;rw [QBu,Qp];simp only [Bool.not_true,cond_false];refine Qvk (fun b=>rfl) rfl fun hS hX _=>?_;simp only [Bool.not_true,Bool.or_self,Bool.not_false,cond_true,QCb hS hX,Qp,Bool.false_or];by_cases h0:Qal p x=0
 ·obtain ⟨hp,hx,hp0⟩:=Qxj h0;simp only [h0,decide_true,Bool.not_true,Bool.not_false,cond_true,QNi hS,Qp,Bool.false_or];by_cases h1:ZU p e=0
  ·simp only [h1,decide_true,Bool.not_true,cond_false,QCp hS,QCq hX,QGm hS hX,Qp];unfold Qnw evE;rw [if_pos h0,if_pos h1];by_cases h3:JV p x e=0
   ·have hy:=Qse hp hx h1 h3;have hl:(Zx p x e).Na.length=x.Na.length:=by rw [hy.tr,hx.tr]
    have hl2:(Zx p x e).Nb.length=x.Nb.length:=by rw [hy.sw,hx.sw]
    have hcn:(Zx p x e).Nj=x.Nj:=by unfold Zx;split<;>rfl
    have key:loop (Qgp e x (Zx p x e).Na) 0=some (.inr ()):=Qet (fun k=>(k:Int)) x.Na.length (fun k hk=>QPf hp hx hX h1 h3 k hk) (by
     unfold Qgp;simp only [XZ];rfl)
    simp only [if_pos h3,decide_true,Bool.not_true,cond_false,hl,hl2,hcn,Bool.or_self,key,Qp,Xl]
   ·simp [h3]
  ·simp [h1]
 ·simp [h0]
end Go.Gw
