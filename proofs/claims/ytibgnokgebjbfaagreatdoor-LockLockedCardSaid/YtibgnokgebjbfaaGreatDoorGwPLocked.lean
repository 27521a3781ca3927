/- The law LockLocked in plain words. No condition. -/
import Derived.Test.YtibgnokgebjbfaaGreatDoorGwLawLockLocked
import Derived.Test.YtibgnokgebjbfaaGreatDoorGwLck17
set_option linter.unusedVariables false
set_option linter.unusedSimpArgs false
set_option linter.unusedSectionVars false
set_option maxRecDepth 4096
namespace Go.Gw
open Go
attribute [local irreducible] loop
theorem Qoj {α β:Type} (p:α->Bool) (g:Nat->α->β):∀ (l:List α) (k:Nat),(Ju p g k l).length<=l.length
 | [],k=>Nat.le_refl _
 | x::l,k=>by
  have:=Qoj p g l (k+1);unfold Ju;split<;>simp<;>omega
theorem Qvr {p:Nf} {x:Ng} {k:Nat} (hk:k < p.Nb.length):decide ((k:Int)∈Qah p x)=Yk x p.Nb[k].Nh:=by
 rw [Bool.eq_iff_iff,decide_eq_true_eq];unfold Qah;rw [Qud];constructor
 ·rintro ⟨j,hj,h1,h2⟩;obtain rfl:k=j:=by omega
  exact h1
 ·intro h;exact ⟨k,hk,h,by omega⟩
theorem QAh (p:Nf) (x:Ng) (e:Nr):Qou p x e=some true:=by
  unfold Qou;rw [QBh,Qp];simp only [Bool.not_true,cond_false];refine Qux (fun b=>rfl) rfl fun hS hX _=>?_;simp only [Bool.not_true,Bool.or_self,Bool.not_false,cond_true,QBo hS hX,Qp,Bool.false_or];by_cases h0:ZO p x=0
  · obtain ⟨hp,hx,hp0⟩:=Qxb h0;simp only [h0,decide_true,Bool.not_true,Bool.not_false,cond_true,QMt hS,Qp,Bool.false_or];by_cases h1:Zz p e=0
    · have hl : (Qah p x).length < 1000000 := by
        have:=Qoj (fun s:Ns=>Yk x s.Nh) (fun k _=>(k:Int)) p.Nb 0;have:=hS.sw;unfold Qah;omega
      simp only [h1,decide_true,Bool.not_true,cond_false,QCc hS,Qtr hX,Qus hS hX,QFy hS hX,Qp,h0,if_true,Qfw _ _ hl];unfold Qnl evE;rw [if_pos h0,if_pos h1];by_cases h2:e.Kind=2
      · obtain ⟨a0,a1,a2⟩:=Qog h1 h2;have ea:e.A=((e.A.toNat:Nat):Int):=by omega
        have hs:ZP p x e=bif Yk x p.Nb[e.A.toNat].Nh then 17 else 0:=by
          unfold ZP;rw [if_pos h2,Qrs a1]
        have hm:decide (e.A∈Qah p x)=Yk x p.Nb[e.A.toNat].Nh:=by
          have:=Qvr (x:=x) a1;rw [<-ea] at this;exact this
        have hX2:YZ p x e=⟨x.Nb.set e.A.toNat e.B,x.Nc,x.Ni⟩:=by unfold YZ;rw [if_pos h2]
        rw [hs,hm,hX2];cases Yk x p.Nb[e.A.toNat].Nh
        · have key : loop (Qcq e x (x.Nb.set e.A.toNat e.B)) 0 = some (.inr ()) := Qbr (fun k => (k : Int)) x.Nb.length (fun k hk => by
            have hw:=hX.sw;unfold Qcq;simp only [XK hk,cond_true,h2,decide_true,Bool.true_and];by_cases h3:e.A=(k:Int)
            · have h4:e.A.toNat=k:=by omega
              simp only [h3,decide_true,Bool.not_true,cond_false,Qp,Bool.false_and,Bool.not_false,Bool.true_and,cond_true,Bool.false_or];rw [Xr (by simpa using hk),Qp,XD k (by omega)];simp
            · have h4:e.A.toNat≠k:=by omega
              simp only [decide_eq_false h3,Bool.not_false,cond_true,Xr hk,Bool.and_false,cond_false,Qp,Bool.false_and,Bool.or_false,Bool.true_and];rw [Xr (show k < (x.Nb.set e.A.toNat e.B).length by simpa using hk),Qp,XD k (by omega)];simp [List.getElem_set,h4]) (by
            unfold Qcq;simp only [XM];rfl)
          simp [h2,key,Xn]
        · simp [h2]
      · have hX2:(YZ p x e).Nb=x.Nb:=by unfold YZ;rw [if_neg h2]
        simp only [decide_eq_false h2,cond_false,Qp,Bool.false_and];by_cases h3:ZP p x e=0
        · have hy:=Qro hp hx h1 h3;have key:loop (Qcq e x x.Nb) 0=some (.inr ()):=Qbr (fun k=>(k:Int)) x.Nb.length (fun k hk=>by
            have hw:=hX.sw;unfold Qcq;simp only [XK hk,cond_true,decide_eq_false h2,Bool.false_and,Bool.not_false,Xr hk,Qp,decide_true,Bool.not_true,Bool.and_false,Bool.and_self,cond_false,Bool.or_self,XD k (show k < 4611686018427387904 by omega)]) (by
            unfold Qcq;simp only [XM];rfl)
          simp only [if_pos h3,decide_true,Bool.not_true,cond_false,hX2,key,Qp,Xn];by_cases h4:e.Kind=1
          · obtain ⟨_,_,_,a3,_⟩:=Qjc h1 h2;obtain ⟨b0,b1⟩:=a3 h4;obtain ⟨hc,hh,_,hli⟩:=Qxq h4 h3;have hr:Yx p e∈p.Nj:=by rw [Qhd b1];exact List.getElem_mem b1
            rw [decide_eq_true h4,Bool.not_true,cond_false,Qdv b0 b1,Qp,<-Qhd b1,QPq hX2,Qtr (hy.s hp),Qp,Qus hS (hy.s hp),Qp,if_pos (QMa hp0 hy)];simp only [decide_true,Bool.not_true,cond_false];have hrn:=hp.rn _ hr;have hrx:=hp.rx _ hr;have hw:=hX.sw;have hsl:=hx.sw;have hl2:(Qah p (YZ p x e)).length < 1000000:=by
              have:=Qoj (fun s:Ns=>Yk (YZ p x e) s.Nh) (fun k _=>(k:Int)) p.Nb 0;have:=hS.sw;unfold Qah;omega
            have key2:loop (Qjq (Yx p e) (Qah p (YZ p x e),0) x.Nb) 0=some (.inr ()):=Qbr (fun k=>(k:Int)) (Yx p e).Np.length (fun k hk=>by
              unfold Qjq;simp only [XK hk,cond_true,Xr hk,Qp,XD k (show k < 4611686018427387904 by omega)];by_cases h5:(Yx p e).Np[k]=-1
              · simp [h5]
              · have hsec : p.Nb[k]'(by omega) |>.Nh |> (· ∈ (Yx p e).Na) := by
                  rw [List.any_eq_false] at hrx;have := hrx ((Yx p e).Np[k], p.Nb[k]'(by omega)) (List.mem_iff_getElem.2 ⟨k, by simp;omega, by simp⟩);unfold JR at this;by_cases hm:(p.Nb[k]'(by omega)).Nh∈(Yx p e).Na
                  · exact hm
                  · simp [hm] at this;exact absurd this h5
                have hlie:=liesB_iff.1 hli k (by omega) hk (by omega) hsec;have htk:Yk (YZ p x e) (p.Nb[k]'(by omega)).Nh=true := QNm hp hx h4 h1 h3 hsec;rw [decide_eq_false h5];simp only [Bool.not_false,cond_true,Xr (show k < x.Nb.length by omega),Qp,decide_eq_true hlie.symm,Bool.not_true,Bool.and_self,Qfw _ _ hl2];rw [Qvr (x:=YZ p x e) (show k < p.Nb.length by omega),htk];simp) (by
              unfold Qjq;simp only [XM];rfl)
            rw [key2];rfl
          · rw [decide_eq_false h4];rfl
        · simp [h3]
    · simp [h1]
  · simp [h0]
end Go.Gw
