/- The law LockReceives in plain words. No condition. -/
import Derived.Test.YteplgmnnkdpmeaaGreatDoorGwLawLockReceives
import Derived.Test.YteplgmnnkdpmeaaGreatDoorGwLck16
set_option linter.unusedVariables false
set_option linter.unusedSimpArgs false
set_option linter.unusedSectionVars false
set_option maxRecDepth 4096
namespace Go.Gw
open Go
attribute [local irreducible] loop
theorem QSe {p:Ng} (hp:PlantOk p) {x:Nf} (h:StateOk p x) (l:Ny):StateS (Qam p x l).1:=by
 unfold Qam;cases Qbf l.e0 l.e1 l.e2 with
 | none=>exact Qke
 | some t =>
  simp only;by_cases h1:t.e3=x.Nh
  ·rw [if_pos h1];by_cases h2:Jf p x ⟨t.e0,t.e1,t.e2⟩=0
   ·rw [if_pos h2];have:=(QHp hp h h2).2.2.s hp;exact ⟨this.sw,this.tr,this.ch⟩
   ·rw [if_neg h2];exact Qke
  ·rw [if_neg h1];exact Qke
theorem QSf {p:Ng} {x:Nf} {l:Ny} (h:(Qam p x l).2≠0):(Qam p x l).1=Qar:=by
 unfold Qam at h ⊢;cases hv:Qbf l.e0 l.e1 l.e2 with
 | none=>rfl
 | some t =>
  rw [hv] at h;simp only at h ⊢;by_cases h1:t.e3=x.Nh
  ·rw [if_pos h1] at h ⊢;by_cases h2:Jf p x ⟨t.e0,t.e1,t.e2⟩=0
   ·rw [if_pos h2] at h;exact absurd rfl h
   ·rw [if_neg h2]
  ·rw [if_neg h1]
theorem QEk (p:Ng) (x:Nf) (l:Ny):Qri p x l=some true:=by
 unfold Qri;rw [QFn,Qp];simp only [Bool.not_true,cond_false];refine Qyj (fun b=>rfl) rfl fun hS hX _=>?_;simp only [Bool.not_true,Bool.or_self,cond_false,QGn hS,Qqj hX,QKl hS hX,QFu hS hX,Qp];by_cases h0:JI p x=0
 ·obtain ⟨hp,hx,_⟩:=QAr h0;simp only [h0,if_true,decide_true,cond_true,QRx hS hp hx,Qp];by_cases h1:(Qam p x l).2=0
  ·simp [h1,Qum,Qtw (QSe hp hx l)]
  ·simp [h1,Qum,QEi,QSf h1,Qtw Qke]
 ·simp [h0,Qum,QEi,Qtw Qke]
end Go.Gw
