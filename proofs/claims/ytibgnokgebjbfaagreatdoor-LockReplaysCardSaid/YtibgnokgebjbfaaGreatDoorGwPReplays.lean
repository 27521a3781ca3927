/- The law LockReplays in plain words. No condition. -/
import Derived.Test.YtibgnokgebjbfaaGreatDoorGwLawLockReplays
import Derived.Test.YtibgnokgebjbfaaGreatDoorGwLck18
set_option linter.unusedVariables false
set_option linter.unusedSimpArgs false
set_option linter.unusedSectionVars false
set_option maxRecDepth 4096
namespace Go.Gw
open Go
attribute [local irreducible] loop
theorem Qvw {p:Nf}:∀ (l:List Nl) {x:Ng} {k i:Nat} {c:Int},evs p x k l=.inr (i,c)->c≠0
 | [],x,k,i,c,h=>by cases h
 | e::l,x,k,i,c,h=>by
  rw [Qch] at h;by_cases h1:YU p x e=0
  ·rw [if_pos h1] at h;exact Qvw l h
  ·rw [if_neg h1] at h;cases h;exact h1
theorem Qwg {p:Nf} (hS:PlantS p) (hp:PlantOk p) (hp0:(ZB p).2=0) (l:List Nl) (hl:l.length < 1000):∀ (m:List Nl) (k:Nat) (x y:Ng),m=l.drop k->k<=l.length->StateOk p x->evs p x k m=.inl y ->
    loop (Qkq p l) (0,(k:Int),x.Na,x.Nb,x.Nh)=some (0,y.Na,y.Nb,y.Nh)
  | [],k,x,y,hm,hk,h,he=>by
    have:k=l.length:=by
      have:=congrArg List.length hm;simp at this;omega
    subst this;cases he;refine JH ?_;unfold Qkq;simp only [X2];rfl
  | e::m,k,x,y,hm,hk,h,he=>by
    have hlt:k < l.length:=by
      have:=congrArg List.length hm;simp at this;omega
    rw [List.drop_eq_getElem_cons hlt] at hm;obtain ⟨hel,hm⟩:=List.cons.inj hm;rw [Qch] at he;by_cases h1:YU p x e=0
    · rw [if_pos h1] at he;have hx:=(Qkb hp h h1).2.2;rw [Qac (s':=(0,((k+1:Nat):Int),(Y5 p x e).Na,(Y5 p x e).Nb,(Y5 p x e).Nh)) (by
        unfold Qkq;simp only [XZ hlt,decide_true,Bool.and_self,cond_true,XA hlt,Qo,Qvj hS,Qfr,<-hel];rw [QHq hS (h.s hp),Qo];unfold Qow;rw [if_pos (QNt hp0 h),if_pos h1,X1 k (by omega)])]
      exact Qwg hS hp hp0 l hl m (k+1) _ y hm (by omega) hx he
    · rw [if_neg h1] at he;cases he
theorem QCd (p:Nf) (l:List Nl):Qqi p l=some true:=by
  unfold Qqi;rw [QDg,Qo];simp only [Bool.not_true,cond_false];rcases QGq p with ⟨hf,hS,_⟩ | hf
  · rw [hf,Qo];by_cases hlim:(20 < l.length/\l.length<=200)\/202 < l.length
    · rw [show (((!true) || ((decide (20 < (l.length : Int))) && (decide ((l.length : Int) <= 200)))) || (decide (202 < (l.length : Int)))) = true by
        simp only [Bool.or_eq_true,Bool.and_eq_true,decide_eq_true_eq];omega]
      rfl
    have hl:l.length<=202:=by omega
    have e1:(decide (20 < (l.length:Int))&&decide ((l.length:Int)<=200))=false:=by
      rw [Bool.and_eq_false_iff,decide_eq_false_iff_not,decide_eq_false_iff_not];omega
    rw [e1,decide_eq_false (show ¬ (202:Int) < l.length by omega)];simp only [Bool.not_true,Bool.or_self,cond_false,Qvj hS,Qvi l (show l.length < 1000000 by omega),Qzi hS l (show l.length < 1000 by omega),QOo hS,Qo];unfold Qnd;by_cases h0:(ZB p).2=0
    · have hp:=Qmc h0;rw [QOp hS hp l (by omega),if_pos h0,h0];simp only [decide_true,Bool.not_true,cond_false,Qo];by_cases h2:l.length<=200
      · simp only [if_pos h2];cases hE:evs p (Z8 p) 0 l with
        | inr q =>
          obtain ⟨i,c⟩:=q;have hc:=Qvw l hE;simp [hc,Qfr,Qie Qub]
        | inl y =>
          have hy:=Qkc hp l Qgl hE;simp only [decide_true,Bool.not_true,Bool.or_self,cond_false,Bool.not_false,cond_true,Qfr,Qie (hy.s hp),Qo];have hh:w64 (Int.tdiv (l.length:Int) 2)=((l.length / 2:Nat):Int):=by
            rw [Int.tdiv_eq_ediv_of_nonneg (by omega),YY (by omega)];omega
          rw [hh,Qbg (by omega),Qo,Qvi _ (by simp;omega),Qo,Qzi hS _ (by simp;omega),Qo];unfold Qnd;rw [if_pos h0,if_pos (show (l.take (l.length / 2)).length<=200 by simp;omega)];have hsp:evs p (Z8 p) 0 (l.take (l.length / 2)++l.drop (l.length / 2))=.inl y:=by rw [List.take_append_drop];exact hE
          rw [Qvv] at hsp;cases hZ:evs p (Z8 p) 0 (l.take (l.length / 2)) with
          | inr q=>rw [hZ] at hsp;cases hsp
          | inl z =>
            rw [hZ] at hsp;simp only at hsp;have hz:=Qkc hp _ Qgl hZ;simp only [Qo];rw [Qwg hS hp h0 l (by omega) (l.drop (l.length / 2)) (l.length / 2) z y rfl (by omega) hz (Qvx _ hsp),Qo];simp only [decide_true,cond_true,Qfr,Qie (hy.s hp),Qo,Bool.and_self]
      · simp only [if_neg h2];simp [Qfr,Qie Qub]
    · rw [if_neg h0];simp [h0,Qfr,QVe,Qie Qub]
  · rw [hf];rfl
end Go.Gw
