/- The law LockPossibles in plain words. No condition. -/
import Derived.Test.YteplgmnnkdpmeaaGreatDoorGwLawLockPossibles
import Derived.Test.YteplgmnnkdpmeaaGreatDoorGwLck16
set_option linter.unusedVariables false
set_option linter.unusedSimpArgs false
set_option linter.unusedSectionVars false
set_option maxRecDepth 4096
namespace Go.Gw
open Go
attribute [local irreducible] loop
theorem QDb {p:Nf} {x:Ng} {e:Nj} (h:e∈Qax p x):Yt p e=0/\Zw p x e=0:=by
 unfold Qax at h;rw [List.mem_filter,decide_eq_true_eq] at h;exact ⟨Qzm h.1,h.2⟩
theorem QRd {p:Nf} {x:Ng} {e:Nj} (h:e∈Qax p x):J0 p x e=0:=by
 unfold J0;rw [if_pos (QDb h).1];exact (QDb h).2
theorem QRe {p:Nf} (hp:PlantOk p) {x:Ng}:(Qax p x).length<=280:=Nat.le_trans (List.length_filter_le _ _) (Qrb hp)
theorem QGm (p:Nf) (x:Ng):Qsz p x=some true:=by
  unfold Qsz;rw [Qyo,Qn];simp only [Bool.not_true,cond_false];refine Qtc (fun b=>rfl) rfl fun hS hX _=>?_;simp only [Bool.not_true,Bool.or_self,cond_false,Qqu hS,Qhu hX,QKt hS hX,QHr hS hX,Qn];by_cases h0:ZP p x=0
  · obtain ⟨hp,hx,hp0⟩:=Qve h0;have hl:=QRe (x:=x) hp;simp only [h0,if_true,decide_true,Bool.not_true,cond_false,Bool.not_false,cond_true,QRq hS hp hx,Qn,QTf _ _ (show (Qax p x).length < 1000000 by omega),Bool.or_self];have key:loop (Qlz p x (Qax p x,0)) 0=some (.inr ()):=Qgd (fun k=>(k:Int)) (Qax p x).length (fun k hk=>by
      have he:=QRd (List.getElem_mem hk);have hy:=(Qzl hp hx he).2.2;unfold Qlz;simp only [XQ hk,cond_true,XA hk,Qn,Qqu hS,Qhu hX,QAi hS hX,XK k (show k < 4611686018427387904 by omega)];unfold Qkw;simp only [h0,he,if_true,decide_true,cond_true,Qjw];rw [QKr hS (hy.s hp),Qn,QQt hp0 hy];rfl) (by
      unfold Qlz;simp only [XS];rfl)
    rw [key];rfl
  · simp [h0]
end Go.Gw
