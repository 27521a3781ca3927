/- The law LockApplies in plain words. No condition. -/
import Derived.Test.YteplgmnnkdpmeaaGreatDoorGwLawLockApplies
import Derived.Test.YteplgmnnkdpmeaaGreatDoorGwLck16
set_option linter.unusedVariables false
set_option linter.unusedSimpArgs false
set_option linter.unusedSectionVars false
set_option maxRecDepth 4096
namespace Go.Gw
open Go
attribute [local irreducible] loop
theorem QGl (p:Nf) (x:Ng) (e:Nj):Qsy p x e=some true:=by
 unfold Qsy;rw [Qyo,Qn];simp only [Bool.not_true,cond_false];refine Qtc (fun b=>rfl) rfl fun hS hX _=>?_;simp only [Bool.not_true,Bool.or_self,cond_false,Qqu hS,Qhu hX,QKq hS,QAi hS hX,QDe hS,Qvj hS,Qn];unfold Qkw ZP;by_cases h0:(ZQ p).2=0
 ·have hp:=Qnk h0;simp only [if_pos h0,h0,decide_true,Bool.not_true,cond_false,QDg hS hp hX,Qn];by_cases h1:Qew p x=0
  ·have hx:=state_iff.1 h1;simp only [h1,if_true,decide_true,cond_true,QRl hS hp hx,Qn];by_cases h2:J0 p x e=0
   ·simp only [h2,if_true,decide_true,Bool.not_true,cond_false,cond_true,Qjw,Qop ((Qzl hp hx h2).2.2.s hp),Qn,Bool.and_self]
   ·simp [h2,Qjw,Qxp,Qop Qxo]
  ·simp [h1,Qjw,Qxp,Qop Qxo]
 ·simp [h0,Qjw,Qxp,Qop Qxo]
end Go.Gw
