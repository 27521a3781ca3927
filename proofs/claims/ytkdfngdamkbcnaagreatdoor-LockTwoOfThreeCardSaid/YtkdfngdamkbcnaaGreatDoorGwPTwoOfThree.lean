/- The law LockTwoOfThree in plain words. No condition. -/
import Derived.Test.YtkdfngdamkbcnaaGreatDoorGwLawLockTwoOfThree
import Derived.Test.YtkdfngdamkbcnaaGreatDoorGwLck19
set_option linter.unusedVariables false
set_option linter.unusedSimpArgs false
set_option linter.unusedSectionVars false
set_option maxRecDepth 4096
namespace Go.Gw
open Go
attribute [local irreducible] loop
theorem QSc {v:Nn} {c:Int} (h:(tel v c).2=0):XI (tel v c).1=0:=by
 unfold tel at h ⊢;cases hk:JW v.Kind
 ·rw [hk] at h;cases h
 rw [hk] at h;cases hb:((Q7 v.A&&Q7 v.B)&&Q7 c)
 ·rw [hb] at h;cases h
 simp at hb;obtain ⟨⟨ha,hb'⟩,hc⟩:=hb;have h0:Q7 v.Kind=true:=by unfold JW at hk;unfold Q7;simp at hk ⊢;omega
 have h4:Q7 (Z0 (Nd.mk v.Kind v.A v.B c 0))=true:=by rw [Qnx (by exact h0) (by exact ha) (by exact hb') (by exact hc),Qnt];omega
 have:Z0 (Nd.mk v.Kind v.A v.B c (Z0 (Nd.mk v.Kind v.A v.B c 0)))=Z0 (Nd.mk v.Kind v.A v.B c 0):=rfl;show XI (Nd.mk v.Kind v.A v.B c (Z0 (Nd.mk v.Kind v.A v.B c 0)))=0;unfold XI;simp [h0,ha,hb',hc,h4,hk,this]
theorem QSf {v:Nn} {c:Int} (h:¬(tel v c).2=0):(tel v c).2=15\/(tel v c).2=2:=by
 revert h;unfold tel;cases JW v.Kind<;>cases ((Q7 v.A&&Q7 v.B)&&Q7 c)<;>simp
theorem Qwh (n k:Int) (h:k=3\/k=5):∃ m,Qgc n k=some m/\0<=m/\m < k:=by
 unfold Qgc;rw [QOb (by omega),Qq];have h1:=Int.tmod_lt_of_pos n (show (0:Int) < k by omega);have h2:-k < n.tmod k:=Int.lt_tmod_of_pos n (show (0:Int) < k by omega);by_cases h0:n.tmod k < 0
 ·rw [decide_eq_true h0,Yz (by omega)];exact ⟨_,rfl,by omega,by omega⟩
 ·rw [decide_eq_false h0];exact ⟨_,rfl,by omega,h1⟩
def Qsq (t o:Nd) (l:Nz):Prop:=l=⟨o,t,t⟩\/l=⟨t,o,t⟩\/l=⟨t,t,o⟩
theorem QQn {t o:Nd} {l:Nz} (h:XI t=0) (k:Qsq t o l):JK l.e0 l.e1 l.e2=some t:=by
 rcases k with rfl | rfl | rfl<;>exact QAk h (by simp)
theorem QNz {p:Nh} {x:Ni} {l l':Nz} (h:JK l.e0 l.e1 l.e2=JK l'.e0 l'.e1 l'.e2):Qdl p x l=Qdl p x l':=by unfold Qdl;rw [h]
theorem QNy {p:Nh} (hp:PlantOk p) {x:Ni} (h:StateOk p x) (l:Nz):StateS (Qdl p x l).1:=by
 unfold Qdl;cases JK l.e0 l.e1 l.e2 with
 | none=>exact Qmy
 | some t =>
  simp only;by_cases h1:t.e3=x.Nj
  ·rw [if_pos h1];by_cases h2:JU p x ⟨t.e0,t.e1,t.e2⟩=0
   ·rw [if_pos h2];have:=(QEl hp h h2).2.2.s hp;exact ⟨this.sw,this.tr,this.ch⟩
   ·rw [if_neg h2];exact Qmy
  ·rw [if_neg h1];exact Qmy
theorem QBc (p:Nh) (x:Ni) (s:NC):Qos p x s=some true:=by
 refine Runs.eq ?_;unfold Qos;refine Runs.call QCh (Runs.bif_f rfl (Runs.call (QSd _ _) ?_));have hE:=@QSc s.Event s.Nj;have hF:=@QSf s.Event s.Nj;generalize tel s.Event s.Nj=T at hE hF;obtain ⟨t,e⟩:=T;simp only at hE hF;refine Runs.bif (fun h=>?_) (fun h=>?_)
 ·simp at h;rcases hF h with rfl | rfl<;>exact Runs.some rfl
 simp at h;replace hE:=hE h;subst h;obtain ⟨m,hm,m0,m3⟩:=Qwh s.Which 3 (.inl rfl);obtain ⟨k,hk,k0,k5⟩:=Qwh s.Place 5 (.inr rfl);refine Runs.call hm ?_;have hi:∀ xs:List Nd,xs.length=3->∃ y,idx xs m=some y:=fun xs hx=>⟨_,by unfold idx;rw [if_pos m0,List.getElem?_eq_getElem (by omega)]⟩
 obtain ⟨y,hy⟩:=hi [t,t,t] rfl;refine Runs.call hy ?_;have hsp:Qsq t s.Na (Nz.mk (Nd.mk (bif Nat.beq (m:Int).toNat 0 then s.Na.e0 else t.e0) (bif Nat.beq (m:Int).toNat 0 then s.Na.e1 else t.e1) (bif Nat.beq (m:Int).toNat 0 then s.Na.e2 else t.e2) (bif Nat.beq (m:Int).toNat 0 then s.Na.e3 else t.e3) (bif Nat.beq (m:Int).toNat 0 then s.Na.e4 else t.e4)) (Nd.mk (bif Nat.beq (m:Int).toNat 1 then s.Na.e0 else t.e0) (bif Nat.beq (m:Int).toNat 1 then s.Na.e1 else t.e1) (bif Nat.beq (m:Int).toNat 1 then s.Na.e2 else t.e2) (bif Nat.beq (m:Int).toNat 1 then s.Na.e3 else t.e3) (bif Nat.beq (m:Int).toNat 1 then s.Na.e4 else t.e4)) (Nd.mk (bif Nat.beq (m:Int).toNat 2 then s.Na.e0 else t.e0) (bif Nat.beq (m:Int).toNat 2 then s.Na.e1 else t.e1) (bif Nat.beq (m:Int).toNat 2 then s.Na.e2 else t.e2) (bif Nat.beq (m:Int).toNat 2 then s.Na.e3 else t.e3) (bif Nat.beq (m:Int).toNat 2 then s.Na.e4 else t.e4))):=by
  have hc:m=0\/m=1\/m=2:=by omega
  rcases hc with rfl | rfl | rfl
  ·exact .inl rfl
  ·exact .inr (.inl rfl)
  ·exact .inr (.inr rfl)
 generalize (Nz.mk (Nd.mk (bif Nat.beq (m:Int).toNat 0 then s.Na.e0 else t.e0) (bif Nat.beq (m:Int).toNat 0 then s.Na.e1 else t.e1) (bif Nat.beq (m:Int).toNat 0 then s.Na.e2 else t.e2) (bif Nat.beq (m:Int).toNat 0 then s.Na.e3 else t.e3) (bif Nat.beq (m:Int).toNat 0 then s.Na.e4 else t.e4)) (Nd.mk (bif Nat.beq (m:Int).toNat 1 then s.Na.e0 else t.e0) (bif Nat.beq (m:Int).toNat 1 then s.Na.e1 else t.e1) (bif Nat.beq (m:Int).toNat 1 then s.Na.e2 else t.e2) (bif Nat.beq (m:Int).toNat 1 then s.Na.e3 else t.e3) (bif Nat.beq (m:Int).toNat 1 then s.Na.e4 else t.e4)) (Nd.mk (bif Nat.beq (m:Int).toNat 2 then s.Na.e0 else t.e0) (bif Nat.beq (m:Int).toNat 2 then s.Na.e1 else t.e1) (bif Nat.beq (m:Int).toNat 2 then s.Na.e2 else t.e2) (bif Nat.beq (m:Int).toNat 2 then s.Na.e3 else t.e3) (bif Nat.beq (m:Int).toNat 2 then s.Na.e4 else t.e4)))=l at hsp ⊢;have hv:=QQn hE hsp;refine Runs.call (QAj l) ?_;have hvr:Qir l=(t,0):=by unfold Qir;rw [hv]
 rw [hvr];refine Runs.bif_f (by simp) (Runs.call hk ?_);have hj:∀ xs:List Int,xs.length=5->∃ y,idx xs k=some y:=fun xs hx=>⟨_,by unfold idx;rw [if_pos k0,List.getElem?_eq_getElem (by omega)]⟩
 obtain ⟨z,hz⟩:=hj [t.e0,t.e1,t.e2,t.e3,t.e4] rfl;refine Runs.call hz ?_;have hput:Nd.mk (bif Nat.beq (k:Int).toNat 0 then s.Number else t.e0) (bif Nat.beq (k:Int).toNat 1 then s.Number else t.e1) (bif Nat.beq (k:Int).toNat 2 then s.Number else t.e2) (bif Nat.beq (k:Int).toNat 3 then s.Number else t.e3) (bif Nat.beq (k:Int).toNat 4 then s.Number else t.e4)=Qcb t k s.Number:=by
  have hc:k=0\/k=1\/k=2\/k=3\/k=4:=by omega
  rcases hc with rfl | rfl | rfl | rfl | rfl<;>rfl
 rw [hput];refine Runs.call (b:=.inr ()) ?_ (Runs.jr ?_)
 ·by_cases h1:Qcb t k s.Number=t
  ·rw [decide_eq_true (p:=Qcb t k s.Number=Nd.mk t.e0 t.e1 t.e2 t.e3 t.e4) h1];rfl
  ·rw [decide_eq_false (p:=Qcb t k s.Number=Nd.mk t.e0 t.e1 t.e2 t.e3 t.e4) h1,Qum,Qq,QEo];rw [decide_eq_false (p:=XI (Qcb t k s.Number)=0) fun h2=>h1 (QNt ⟨k0,k5⟩ hE h2)];rfl
 refine Runs.of_eq (Qvh (fun b=>rfl) rfl fun hS hX _=>?_) rfl;simp only [Bool.not_true,Bool.or_self,cond_false,QDe hS,QDf hX,QHj hS hX,Qq];rw [QNz (l':=l) (l:=Nz.mk _ _ _) ((QAk hE (.inl ⟨rfl,rfl⟩)).trans hv.symm)];by_cases h0:JE p x=0
 ·obtain ⟨hp,hx,_⟩:=Qxk h0;simp [h0,Qzc,Qyk (QNy hp hx l)]
 ·simp [h0,Qzc,Qyk Qmy]
end Go.Gw
