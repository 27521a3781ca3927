/- The law LockQuestions in plain words. No condition. -/
import Derived.Test.YtiocofjhahlkaaaGreatDoorGwLawLockQuestions
import Derived.Test.YtiocofjhahlkaaaGreatDoorGwAwakeLock
set_option linter.unusedVariables false
set_option linter.unusedSimpArgs false
set_option linter.unusedSectionVars false
set_option maxRecDepth 4096
namespace Go.Gw
open Go
attribute [local irreducible] loop
theorem Qtg {α β:Type} (p:α->Bool) (g:Nat->α->β):∀ (l:List α) (k:Nat),(J2 p g k l).length<=l.length
 | [],k=>Nat.le_refl _
 | x::l,k=>by
  have:=Qtg p g l (k+1);unfold J2;split<;>simp<;>omega
theorem Qzo (p:LockPlant) (x:LockState) (n:Arr2_Int):Qnt p x n=some true:=by
  unfold Qnt;rw [QAn,QB];simp only [Bool.not_true,cond_false];refine Quc (fun b=>rfl) rfl fun hS hX _=>?_;simp only [Bool.not_true,Bool.or_self,cond_false,QBh hS,QBi hX,QFa hS hX,QFc hS hX,QEz hS hX,QAv hS hX,QB];by_cases h0:Zy p x=0
  · obtain ⟨hp,hx,hp0⟩:=Qwd h0;have hl:(Qdo p x).length < 1000000:=by
      have:=Qtg (fun s:LockSwitch=>ZR x s.Section) (fun k _=>(k:Int)) p.Switches 0;have:=hS.sw;unfold Qdo;omega
    simp only [h0,if_true,decide_true,Bool.not_true,cond_false,Bool.not_false,cond_true,QMc hS hX,QB,QEv _ _ hl,Bool.or_self,Qwp hS,QMh hS,Qwn hX];have e1:∀ (f:Int×Int->Option Bool),(Option.bind (α:=Int×Int) (bif decide ((bif X9 p n.e0 then (0:Int) else 6)=0) then (bif decide (Xy x n.e0 < 0) then some (12,0) else some (bif X9 p n.e0 then 0 else 6,Xy x n.e0)) else some (bif X9 p n.e0 then 0 else 6,0)) f)=f (bif X9 p n.e0 then ((bif ZR x n.e0 then 0 else 12),if 0 < Xy x n.e0 then Xy x n.e0 else 0) else (6,0)):=fun f=>by
      cases X9 p n.e0
      · rfl
      · simp only [cond_true,decide_true];have ht:=Qis x n.e0;cases hb:ZR x n.e0 with
        | true =>
          rw [hb,decide_eq_true_eq] at ht;rw [decide_eq_false (show ¬ Xy x n.e0 < 0 by omega)];by_cases h1:0 < Xy x n.e0
          · rw [if_pos h1];rfl
          · rw [if_neg h1,show Xy x n.e0=0 by omega];rfl
        | false =>
          rw [hb,decide_eq_false_iff_not] at ht;rw [decide_eq_true (show Xy x n.e0 < 0 by omega),if_neg (show ¬ 0 < Xy x n.e0 by omega)];rfl
    have e2:∀ (f:Int×Int->Option Bool),(Option.bind (α:=Int×Int) (bif decide ((bif ZT p n.e1 then (0:Int) else 6)=0) then (Option.bind (idx x.Trains n.e1) fun el=>bif decide ((el.Chain.length:Int)=0) then some (22,0) else (Option.bind (idx el.Chain (w64 ((el.Chain.length:Int) - 1))) fun el2=>some (bif ZT p n.e1 then 0 else 6,el2))) else some (bif ZT p n.e1 then 0 else 6,0)) f)=f (bif ZT p n.e1 then (match (x.Trains[n.e1.toNat]?.getD ⟨[],0⟩).Chain.getLast? with | some s=>(0,s) | none=>(22,0)) else (6,0)):=fun f=>by
      cases hb:ZT p n.e1
      · rfl
      · simp only [cond_true,decide_true];unfold ZT at hb;simp at hb;have hl:=hx.tr;have hn:n.e1.toNat < x.Trains.length:=by omega
        rw [Qts hb.1 hn,QB,List.getElem?_eq_getElem hn,Option.getD_some];have hc:=hX.ch _ (List.getElem_mem hn);generalize x.Trains[n.e1.toNat]=t at hc ⊢;by_cases h1:t.Chain.length=0
        · rw [decide_eq_true (show (t.Chain.length:Int)=0 by omega),List.length_eq_zero_iff.1 h1];rfl
        · rw [decide_eq_false (show ¬ (t.Chain.length : Int) = 0 by omega), cond_false, show w64 ((t.Chain.length : Int) - 1) = ((t.Chain.length - 1 : Nat) : Int) by rw [Jc (by omega)]; omega, Xu (by omega), QB,
            List.getLast?_eq_getElem?,List.getElem?_eq_getElem (by omega)];rfl
    simp only [e1,e2];cases X9 p n.e0<;>cases ZT p n.e1<;>(try simp)<;>(split<;>simp_all)
  · simp [h0]
end Go.Gw
