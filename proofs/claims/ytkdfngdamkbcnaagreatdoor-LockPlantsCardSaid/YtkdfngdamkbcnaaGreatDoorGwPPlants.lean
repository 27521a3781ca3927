/- The law LockPlants in plain words. No condition. -/
import Derived.Test.YtkdfngdamkbcnaaGreatDoorGwLawLockPlants
import Derived.Test.YtkdfngdamkbcnaaGreatDoorGwLck23
set_option linter.unusedVariables false
set_option linter.unusedSimpArgs false
set_option linter.unusedSectionVars false
set_option maxRecDepth 4096
namespace Go.Gw
open Go
attribute [local irreducible] loop
theorem QOm {l:List Na} (hl:l.length < 1000) (e:Int):loop (Qir (l,e) l) 0=some (.inr ()):=by
 rw [Zo l (fun _=>false) (fun _ _=>false)]
 ·rcases Jx (p:=fun _:Na=>false) (res:=fun _ _=>false) l 0 with ⟨k1,k2⟩ | ⟨j,x,k1,k2,k3⟩
  ·rw [k1]
  ·cases k2
 ·intro k hk;unfold Qir;rw [X6 hk,cond_true,Xw hk,QE,QE,decide_eq_true rfl,XO k (by omega)];rfl
 ·unfold Qir;rw [X7];rfl
theorem QAa (p:Nd) (s:Int):Qnw p s=some true:=by
 unfold Qnw;rw [QBf,QE];simp only [Bool.not_true,cond_false];rcases QEw p with ⟨hf,hS,_⟩ | hf
 ·rw [hf,QE];simp only [Bool.not_true,cond_false,QCc hS,Qso hS,QMu hS,QE];by_cases h0:(Z7 p).2=0
  ·have hp:=QMk h0;obtain ⟨l,h1,h2⟩:=QCa hS hp h0;obtain ⟨m,h3,h4⟩:=QMw hS hp;have e:=h2.eq h4;subst e;rw [h1,QE,QFy hS hp h0,QE,h3,QE,QOm h2.len,QE];simp only [decide_true,Bool.not_true,Bool.or_self,cond_false,h0,Xu,QNa hS,QE];cases hs:YU p s with
   | false=>simp
   | true =>
    have hfl:(Qdw p s).length < 1000000:=by
     have:=Qtg (p:=fun r:Ni=>decide (r.Nb.head?=some s)) (g:=fun k _=>(k:Int)) p.Nc 0;have:=hp.r10;unfold Qdw;omega
    simp only [cond_true,decide_true,Bool.not_true,cond_false,QMy hp,QE,QFt _ _ hfl,Bool.and_self]
  ·rw [QBz hS h0,QE,QFx hS h0,QE];simp [h0];rfl
 ·rw [hf];rfl
end Go.Gw
