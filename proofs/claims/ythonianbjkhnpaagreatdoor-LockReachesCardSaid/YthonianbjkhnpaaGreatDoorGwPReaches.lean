/- The law LockReaches in plain words. No condition. -/
import Derived.Test.YthonianbjkhnpaaGreatDoorGwLawLockReaches
import Derived.Test.YthonianbjkhnpaaGreatDoorGwLck18
set_option linter.unusedVariables false
set_option linter.unusedSimpArgs false
set_option linter.unusedSectionVars false
set_option maxRecDepth 4096
namespace Go.Gw
open Go
attribute [local irreducible] loop
theorem QCo (p:Nd):Qqp p=some true:=by
 refine Runs.eq ?_;unfold Qqp;refine Runs.call QDs (Runs.bif_f rfl ?_);rcases QHg p with ⟨hf,hS,_⟩ | hf
 rotate_left
 ·exact Runs.call hf (Runs.call rfl (Runs.call rfl (Runs.bif_t rfl (Runs.some rfl))))
 have ht:∃ b,Qku p=some b:=by
  unfold Qku;rw [hf];exact ⟨_,rfl⟩
 obtain ⟨b,hb⟩:=ht;refine Runs.call hf (Runs.call hb ?_);refine Runs.callR (R:=fun e=>b=true\/e=(JY p).2) ?_ ?_
 ·cases b with
  | true=>exact Runs.some (.inl rfl)
  | false=>exact Runs.of_eq (Qsm hS) (.inr rfl)
 intro e he;refine Runs.bif (fun _=>Runs.some rfl) (fun _=>Runs.call (QEt hS) ?_);by_cases h0:(JY p).2=0
 ·have hp:=Qzh h0;refine Runs.call (QIo hS h0) (Runs.call (Qsm hS) (Runs.bif_f (by rw [h0];rfl) (Runs.call (QPe hS hp) (Runs.some ?_))));generalize hr:Qad p Qdv [YE p] [Yy (YE p)]=r;obtain ⟨n,ok⟩:=r;cases ok with
  | true=>simp
  | false=>simp
 ·refine Runs.call (QIn hS h0) (Runs.call (Qsm hS) (Runs.bif_t (by rw [decide_eq_false h0];rfl) (Runs.some (by simp))))
end Go.Gw
