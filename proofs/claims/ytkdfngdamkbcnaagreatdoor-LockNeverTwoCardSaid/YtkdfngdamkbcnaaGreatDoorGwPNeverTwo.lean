/- The law LockNeverTwo in plain words. No condition. -/
import Derived.Test.YtkdfngdamkbcnaaGreatDoorGwLawLockNeverTwo
import Derived.Test.YtkdfngdamkbcnaaGreatDoorGwLck19
set_option linter.unusedVariables false
set_option linter.unusedSimpArgs false
set_option linter.unusedSectionVars false
set_option maxRecDepth 4096
namespace Go.Gw
open Go
attribute [local irreducible] loop
theorem QPa {p:Nf} (hp:PlantOk p) {y:Nh} (h:StateOk p y) (r1 r2:Int):loop (Qqv (y,r1,r2)) ([],0)=some (.inr ()):=by
  have hS:=h.s hp;have hT:=hp.t3;have hTr:=h.tr;refine Runs.eq (Runs.loop (fun s=>∃ i:Nat,s=((y.Na.take i).flatMap (·.Ng),(i:Int))/\i<=y.Na.length/\((y.Na.take i).flatMap (·.Ng)).length<=1000 * i) (fun s=>y.Na.length - s.2.toNat) ⟨0,rfl,Nat.zero_le _,Nat.le_refl _⟩ ?_);rintro _ ⟨i,rfl,hi,hl⟩;unfold Qqv;by_cases hlt:i < y.Na.length
  · refine Runs.bif_t (XZ hlt) ?_;have hc:y.Na[i].Ng.length < 1000:=hS.ch _ (List.getElem_mem hlt);have hnd:=h.nd _ (List.getElem_mem hlt);refine Runs.callR (R:=fun o=>o=.inr ((y.Na.take i).flatMap (·.Ng)++y.Na[i].Ng)) (Runs.loop (fun s=>∃ k:Nat,s=((y.Na.take i).flatMap (·.Ng)++y.Na[i].Ng.take k,(k:Int))/\k<=y.Na[i].Ng.length) (fun s=>y.Na[i].Ng.length - s.2.toNat) ⟨0,by simp,Nat.zero_le _⟩ ?_) ?_
    · rintro _ ⟨k,rfl,hk⟩;unfold Qxk;refine Runs.call (Xu hlt) ?_;by_cases hk2:k < y.Na[i].Ng.length
      · refine Runs.bif_t (XZ hk2) (Runs.call (Xu hlt) (Runs.call (Xu hk2) (Runs.call (Qqn _ _ (by simp;simp at hl;omega)) (Runs.bif_f ?_ (Runs.call (JO (by simp;simp at hl;omega)) ?_)))))
        · refine decide_eq_false fun hm=>?_;rcases List.mem_append.1 hm with hm | hm
          · obtain ⟨t,ht,hs⟩:=List.mem_flatMap.1 hm;obtain ⟨j,hj,e⟩:=List.mem_iff_getElem.1 ht;rw [List.getElem_take] at e;have hj2:j < i:=by simp at hj;omega
            subst e;exact h.dj j i (by omega) hlt (by omega) _ hs (List.getElem_mem hk2)
          · exact Qzm hnd hk2 hm
        · rw [XI k (by omega)];refine Runs.some ⟨⟨k+1,by rw [List.append_assoc,Qoc _ _ hk2],by omega⟩,?_⟩;show y.Na[i].Ng.length - ((k+1:Nat):Int).toNat < y.Na[i].Ng.length - ((k:Nat):Int).toNat;simp;omega
      · have:k=y.Na[i].Ng.length:=by omega
        subst this;refine Runs.bif_f (X2 _) (Runs.some ?_);show Sum.inr _=Sum.inr _;rw [List.take_length]
    · rintro _ rfl;refine Runs.jr ?_;rw [XI i (by omega)];have e:(y.Na.take i).flatMap (·.Ng)++y.Na[i].Ng=(y.Na.take (i+1)).flatMap (·.Ng):=by
        rw [<-Qoc _ _ hlt,List.flatMap_append];simp
      refine Runs.some ⟨⟨i+1,by rw [e],by omega,by rw [<-e,List.length_append];omega⟩,?_⟩;show y.Na.length - ((i+1:Nat):Int).toNat < y.Na.length - ((i:Nat):Int).toNat;simp;omega
  · have:i=y.Na.length:=by omega
    subst this;exact Runs.bif_f (X2 _) (Runs.some rfl)
theorem Qws {p:Nf}:∀ (l:List Nj) {x:Nh} {k i:Nat} {c:Int},evs p x k l=.inr (i,c)->c≠0
 | [],x,k,i,c,h=>by cases h
 | e::l,x,k,i,c,h=>by
  rw [Qqi] at h;by_cases h1:ZN p x e=0
  ·rw [if_pos h1] at h;exact Qws l h
  ·rw [if_neg h1] at h;cases h;exact h1
theorem QFp (q:Nz) (l:List Nd) (hl:l.length < 1000) (e:Int) (b:Bool):∃ c,loop (Qld q (l,e)) (b,0)=some c/\(c=true->b=true\/Nd.mk (if q.e3 < q.e1 then q.e3 else q.e1) (if q.e1 < q.e3 then q.e3 else q.e1)∈l):=by
 have key:Runs (loop (Qld q (l,e)) (b,0)) (fun c=>c=true->b=true\/Nd.mk (if q.e3 < q.e1 then q.e3 else q.e1) (if q.e1 < q.e3 then q.e3 else q.e1)∈l):=by
  refine Runs.loop (fun s=>∃ (c:Bool) (k:Nat),s=(c,(k:Int))/\k<=l.length/\(c=true->b=true\/Nd.mk (if q.e3 < q.e1 then q.e3 else q.e1) (if q.e1 < q.e3 then q.e3 else q.e1)∈l)) (fun s=>l.length - s.2.toNat) ⟨b,0,rfl,Nat.zero_le _,.inl⟩ ?_;rintro _ ⟨c,k,rfl,hk,h⟩;unfold Qld;by_cases hlt:k < l.length
  ·refine Runs.bif_t (XZ hlt) ?_;have hm:l.length - ((k+1:Nat):Int).toNat < l.length - ((k:Nat):Int).toNat:=by simp;omega
   rw [XI k (by omega)];cases c with
   | true=>exact Runs.call rfl (Runs.some ⟨⟨true,k+1,rfl,by omega,fun _=>h rfl⟩,hm⟩)
   | false =>
    refine Runs.call (Xu hlt) (Runs.some ⟨⟨_,k+1,rfl,by omega,fun hc=>?_⟩,hm⟩);simp only [Bool.false_or,decide_eq_true_eq] at hc;exact .inr (hc▸List.getElem_mem hlt)
  ·have:k=l.length:=by omega
   subst this;exact Runs.bif_f (X2 _) (Runs.some h)
 obtain ⟨c,h1,h2⟩:=key;exact ⟨c,h1,h2⟩
theorem QFm {p:Nf} (hp:PlantOk p) {l:List Nd} (hl:CflR p l) {a b:Nj} (ka:a.Kind=1) (kb:b.Kind=1) (ea:YX p a=0) (eb:YX p b=0) (h:a.B=b.B\/Nd.mk (if b.B < a.B then b.B else a.B) (if a.B < b.B then b.B else a.B)∈l):∃ s,s∈(YD p a).Nb/\s∈(YD p b).Nb:=by
 obtain ⟨_,_,_,a3,_⟩:=Qfo ea (by omega);obtain ⟨_,_,_,b3,_⟩:=Qfo eb (by omega);obtain ⟨a3,a4⟩:=a3 ka;obtain ⟨b3,b4⟩:=b3 kb;have hra:(YD p a).Nb=Qer p a.B.toNat:=by unfold YD;rw [Qjc a4,List.getElem?_eq_getElem a4];rfl
 have hrb:(YD p b).Nb=Qer p b.B.toNat:=by unfold YD;rw [Qjc b4,List.getElem?_eq_getElem b4];rfl
 rw [hra,hrb];rcases h with h | h
 ·rw [h];have h2:=hp.r2 _ (List.getElem_mem b4);rw [<-Qjc b4] at h2;exact ⟨_,List.getElem_mem (show 0 < (Qer p b.B.toNat).length by omega),List.getElem_mem (by omega)⟩
 ·obtain ⟨c,d,e,h1,h2,h3,_⟩:=(hl.mem _).1 h;unfold cfl at h3;obtain ⟨s,hs1,hs2⟩:=List.any_eq_true.1 h3;have hs2:=of_decide_eq_true hs2;unfold prI at e;have e1:=congrArg Nd.e0 e;have e2:=congrArg Nd.e1 e;dsimp only at e1 e2;by_cases hc:a.B < b.B
  ·rw [if_neg (by omega)] at e1;rw [if_pos hc] at e2;exact ⟨s,by rw [show a.B.toNat=c by omega];exact hs1,by rw [show b.B.toNat=d by omega];exact hs2⟩
  ·rw [if_neg hc] at e2;by_cases hc2:b.B < a.B
   ·rw [if_pos hc2] at e1;exact ⟨s,by rw [show a.B.toNat=d by omega];exact hs2,by rw [show b.B.toNat=c by omega];exact hs1⟩
   ·rw [if_neg hc2] at e1;omega
theorem QDl (p:Nf) (l:List Nj) (q:Nz):Qqw p l q=some true:=by
 refine Runs.eq ?_;unfold Qqw;refine Runs.call QEr (Runs.bif_f rfl ?_);rcases QIl p with ⟨hf,hS,_⟩ | hf
 rotate_left
 ·exact Runs.call hf (Runs.call rfl (Runs.bif_t rfl (Runs.some rfl)))
 refine Runs.call hf ?_;by_cases hl:20 < l.length
 ·rw [decide_eq_true (show (20:Int) < (l.length:Int) by omega)];exact Runs.call rfl (Runs.bif_t rfl (Runs.some rfl))
 rw [decide_eq_false (show ¬ (20:Int) < (l.length:Int) by omega)];refine Runs.call (QQm hS) ?_;by_cases h0:(ZG p).2=0
 rotate_left
 ·rw [decide_eq_false h0];exact Runs.bif_t rfl (Runs.some rfl)
 rw [decide_eq_true h0];have hp:=Qmm h0;refine Runs.bif_f rfl (Runs.call (Qkn hS) (Runs.call (QFs l (by omega)) (Runs.call (QRa hS l (by omega)) ?_)));unfold Qsv;rw [if_pos h0,if_pos (by omega)];cases he:evs p (Qbt p) 0 l with
 | inr ic =>
  obtain ⟨i,c⟩:=ic;refine Runs.bif (fun _=>Runs.some rfl) (fun hc=>?_);have:c=0:=by simpa using hc
  exact absurd this (Qws l he)
 | inl y =>
  have hy:=Qqj hp l Qpq he;have hyS:=hy.s hp;refine Runs.bif_f rfl (Runs.call (QPa hp hy 0 0) (Runs.jr (Runs.call rfl ?_)));dsimp only;by_cases hab:q.e0=q.e2
  ·rw [decide_eq_true hab];exact Runs.call rfl (Runs.call rfl (Runs.bif_t rfl (Runs.some rfl)))
  rw [decide_eq_false hab];refine Runs.call (QAb hS _) ?_;by_cases ea:YX p ⟨1,q.e0,q.e1⟩=0
  rotate_left
  ·rw [decide_eq_false ea];exact Runs.call rfl (Runs.bif_t rfl (Runs.some rfl))
  rw [decide_eq_true ea];refine Runs.call (QAb hS _) ?_;by_cases eb:YX p ⟨1,q.e2,q.e3⟩=0
  rotate_left
  ·rw [decide_eq_false eb];exact Runs.bif_t rfl (Runs.some rfl)
  rw [decide_eq_true eb];obtain ⟨m,hm,hm2⟩:=QFq hS hp h0;obtain ⟨c,hc,hc2⟩:=QFp q m hm2.len 0 (decide (q.e1=q.e3));refine Runs.bif_f rfl (Runs.call (Qkn hS) (Runs.call hm (Runs.bif_f rfl (Runs.call hc ?_))));have hopen:=Qzs h0 hy;refine Runs.callR (R:=fun r=>r.1=0->ZS p y ⟨1,q.e0,q.e1⟩=0/\Nh.mk r.2.1 r.2.2.1 r.2.2.2=Zo p y ⟨1,q.e0,q.e1⟩) (Runs.call (Qkn hS) (Runs.call (QFt hyS) (Runs.call (Qxj hS hyS _) (Runs.some ?_)))) ?_
  ·unfold Qkf ZN;rw [if_pos hopen,if_pos ea];intro h;by_cases hs:ZS p y ⟨1,q.e0,q.e1⟩=0
   ·rw [if_pos hs];exact ⟨hs,rfl⟩
   ·rw [if_neg hs] at h;exact absurd h hs
  rintro ⟨g,sw,tr,ct⟩ hg;dsimp only at hg ⊢;refine Runs.bif (fun _=>Runs.some rfl) (fun hn=>?_);simp only [Bool.or_eq_false_iff,Bool.not_eq_false',decide_eq_true_eq] at hn;obtain ⟨sa,hz⟩:=hg hn.2;rw [hz];have hz2:=(Qqf hp hy (by unfold ZN;rw [if_pos ea];exact sa)).2.2;obtain ⟨s,hs1,hs2⟩:=QFm hp hm2 (a:=⟨1,q.e0,q.e1⟩) (b:=⟨1,q.e2,q.e3⟩) rfl rfl ea eb (by
   rcases hc2 hn.1 with h | h
   ·exact .inl (of_decide_eq_true h)
   ·exact .inr h)
  have hne:=QVb hp hy (a:=⟨1,q.e0,q.e1⟩) (b:=⟨1,q.e2,q.e3⟩) rfl rfl hab ea eb sa hs1 hs2;refine Runs.call (Qkn hS) (Runs.call (Qxj hS (hz2.s hp) _) (Runs.some ?_));unfold Qkf ZN;rw [if_pos (Qzs h0 hz2),if_pos eb,if_neg hne,decide_eq_false hne];rfl
end Go.Gw
