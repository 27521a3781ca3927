/- The law LockStates in plain words. No condition. -/
import Derived.Test.YtiocofjhahlkaaaGreatDoorGwLawLockStates
import Derived.Test.YtiocofjhahlkaaaGreatDoorGwAwakeLock
set_option linter.unusedVariables false
set_option linter.unusedSimpArgs false
set_option linter.unusedSectionVars false
set_option maxRecDepth 4096
namespace Go.Gw
open Go
attribute [local irreducible] loop
theorem Qyo (p:LockPlant) (x:LockState):Qnl p x=some true:=by
 unfold Qnl;rw [Qzn,QB];simp only [Bool.not_true,cond_false];refine Qtc (fun b=>rfl) rfl fun hS hX _=>?_;simp only [Bool.not_true,Bool.or_self,cond_false,QAh hS,QAi hX,QDw hS,QDy hS hX,QLa hS,QB];by_cases h0:(ZO p).2=0
 ·simp only [if_pos h0,h0,decide_true,Bool.not_true,cond_false,cond_true,QKw hS,QB,Qxb,Qwh (Qzo hS),QLd hS (Qvj h0) hX,Qca,if_true]
 ·simp only [if_neg h0,decide_eq_false h0,Bool.not_false,cond_true,decide_true,Qca,Qxb,QRy,Qwh QRx,QB,Bool.and_self]
end Go.Gw
