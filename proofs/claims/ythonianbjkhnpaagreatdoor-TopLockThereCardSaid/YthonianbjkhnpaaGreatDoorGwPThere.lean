/- The law TopLockThere in plain words. No condition. -/
import Derived.Test.YthonianbjkhnpaaGreatDoorGwLawTopLockThere
import Derived.Test.YthonianbjkhnpaaGreatDoorGwLck27
set_option linter.unusedVariables false
set_option linter.unusedSimpArgs false
set_option linter.unusedSectionVars false
set_option maxRecDepth 4096
open Bool renaming not_true→Ea,not_false→Eb,or_self→Ed
open List renaming getElem_mem→Ec
namespace Go.Gw
open Go
attribute [local irreducible] loop
theorem QMb:Qrj=some true:=by decide +kernel
theorem Qxr {α β:Type} (p:α->Bool) (g:Nat->α->β):∀ (l:List α) (k:Nat),(J8 p g k l).length<=l.length
 | [],k=>Nat.le_refl _
 | x::l,k=>by
  have:=Qxr p g l (k+1);unfold J8;split<;>simp<;>omega
theorem QWe {p:Nf} {x:Nd} (hx:StateOk p x) {e:Nj} (h1:ZB p e=0) (h2:Zc p x e=0) {k:Nat} (hk:k < (XC p x e).Nb.length) (hk2:k < x.Nb.length) (hne:(XC p x e).Nb[k]≠x.Nb[k]):(k:Int)∉Qel p x:=by
 by_cases h3:e.Kind=2
 ·obtain ⟨a0,a1,a2⟩:=Qrb h1 h3;have hst:XC p x e=⟨x.Nb.set e.A.toNat e.B,x.Na,x.Nh⟩:=by unfold XC;rw [if_pos h3]
  have hkA:k=e.A.toNat:=by
   refine Classical.byContradiction fun c=>hne ?_;simp only [hst];rw [List.getElem_set_ne (fun q=>c q.symm)]
  unfold Zc at h2;rw [if_pos h3,Qul a1] at h2;intro hm;unfold Qel at hm;rw [Qxs] at hm;obtain ⟨j,hj,q1,q2⟩:=hm;have hj2:j=e.A.toNat:=by omega
  subst hj2;rw [q1] at h2;cases h2
 ·refine absurd ?_ hne;have hst:(XC p x e).Nb=x.Nb:=by unfold XC;rw [if_neg h3]
  simp only [hst]
theorem QNc {p:Nf} (hS:PlantS p) {x:Nd} (hx:StateOk p x) (hX:StateS x) {e:Nj} (h1:ZB p e=0) (h2:Zc p x e=0) (hy:StateOk p (XC p x e)):loop (Qlu (Qel p x,0) x.Nb (XC p x e).Nb) 0=some (.inr ()):=by
 have hl:(Qel p x).length < 1000000:=by
  have:=Qxr (fun s:Nt=>YI x s.Nn) (fun k _=>(k:Int)) p.Nb 0;have:=hS.sw;unfold Qel;omega
 have hlen:(XC p x e).Nb.length=x.Nb.length:=by rw [hy.sw,hx.sw]
 have hlx:=hX.sw;refine Qgi (fun k=>(k:Int)) (XC p x e).Nb.length (fun k hk=>?_) ?_
 ·have hk2:k < x.Nb.length:=by omega
  have ht:=QWe hx h1 h2 hk hk2;unfold Qlu;rw [XA hk,cond_true,Xh hk,Qj,Xh hk2,Qj];by_cases hq:(XC p x e).Nb[k]=x.Nb[k]
  ·rw [decide_eq_true hq,Xj k (by omega)];rfl
  ·rw [decide_eq_false hq,Eb,cond_true,Qic _ _ hl,Qj,decide_eq_false (ht hq),Xj k (by omega)];rfl
 ·unfold Qlu;rw [XE];rfl
theorem QDu {p:Nf} (hS:PlantS p) (hp0:(Jy p).2=0) {to:Nx} (h1:Zt p to.e0=true) (h2:XQ p to.e1=true) {y:Nd} (hz:Y5 to y=true) {L:List Nj} (hL:L.length<=60):∀ (l:List Nj) (k:Nat) {x:Nd},L.drop k=l->StateOk p x->Run p x l y->ZG p to JG [x] [X7 x] 0=((l.length:Int),true) ->
  loop (Qib p to (L,0)) ((k:Int),x.Nb,x.Na,x.Nh)=some (.inr (y.Nb,y.Na,y.Nh))
 | [],k,x,hk,hx,h,_=>by
  cases h;have hk2:L.length<=k:=by rwa [List.drop_eq_nil_iff] at hk
  refine Jv ?_;unfold Qib;dsimp only;rw [decide_eq_false (by omega)];rfl
 | a::l,k,x,hk,hx,h,hW=>by
  have hp:=Qnq hp0;have hlt:k < L.length:=by
   rcases Nat.lt_or_ge k L.length with q | q
   ·exact q
   ·rw [List.drop_eq_nil_of_le q] at hk;cases hk
  have hkl:=congrArg List.length hk;rw [List.length_drop,List.length_cons] at hkl;rw [List.drop_eq_getElem_cons hlt] at hk;obtain ⟨k1,k2⟩:=List.cons.inj hk;obtain ⟨e1,e2⟩:=Qjl h.1;have hy:=Qew hp hx e1 e2;have hX:=hx.s hp;have hY:=hy.s hp;have hN:=QWs hp hx (m:=l.length) hW h rfl hz;obtain ⟨l',e',w1,w2⟩:=Qyy hS hY (Qgo hp0 hy) h1 h2;have hll:l'.length=l.length/\e'=0:=by
   rcases w2 with ⟨w2,_⟩ | ⟨w2,_⟩ | ⟨w2,w3,_⟩
   ·rw [w2] at hN;have:=(Prod.mk.inj hN).1;omega
   ·rw [w2] at hN;cases (Prod.mk.inj hN).2
   ·rw [w2] at hN;have:=(Prod.mk.inj hN).1;exact ⟨by omega,w3⟩
  obtain ⟨hll,rfl⟩:=hll;have hs:Qib p to (L,0) ((k:Int),x.Nb,x.Na,x.Nh)=some (.inl (((k+1:Nat):Int),(XC p x a).Nb,(XC p x a).Na,(XC p x a).Nh)):=by
   unfold Qib;dsimp only;have hap:Qlb p x a=(XC p x a,0):=by
    unfold Qlb;rw [if_pos (Qgo hp0 hx),QId e1,if_pos e2]
   rw [XA hlt,cond_true,Xh hlt,Qj,k1,Qwy hS,Qj,Que,Qqr hX,Qj,QLe hS hX,Qj,hap,Qj];dsimp only;rw [decide_eq_true rfl,cond_true,Qj,Que,Qqr hY,Qj,QLg hS hY,Qj,Qgo hp0 hy,decide_eq_true rfl,cond_true,hy.sw,hx.sw,decide_eq_true rfl,cond_true,hy.tr,decide_eq_true rfl,Ea,Qj,cond_false,Qj,Qj,QLl hS hX,Qj,if_pos (Qgo hp0 hx)];dsimp only;rw [decide_eq_true rfl,Ea,cond_false,QNc hS hx hX e1 e2 hy,Qj];show Option.bind _ _=_;rw [w1,Qj];dsimp only;rw [decide_eq_true rfl,Ea,Bool.false_or,decide_eq_true (by rw [YD (x:=(L.length:Int) - 1) (by omega),YD (by omega)];omega),Ea,cond_false,Xj k (by omega)]
  rw [JP hs];exact QDu hS hp0 h1 h2 hz hL l (k+1) k2 hy h.2 hN
theorem QKn {p:Nf} {y:Nd} (hy:StateOk p y) {k:Nat} (hk:k < y.Na.length) {s:Int} (hs:s∈y.Na[k].Nc):X0 y s=(k:Int)/\YI y s=true:=by
 have ht:YI y s=true:=by
  unfold YI;rw [List.any_eq_true];exact ⟨_,Ec hk,decide_eq_true hs⟩
 refine ⟨?_,ht⟩;rcases Qyt (fun t:Nl=>decide (s∈t.Nc)) y.Na with ⟨_,h⟩ | ⟨j,hj,h1,h2⟩
 ·unfold YI at ht;rw [ht] at h;cases h
 ·have h2:=of_decide_eq_true h2;have:j=k:=Classical.byContradiction fun c=>hy.dj j k hj hk c s h2 hs
  unfold X0;rw [h1,this]
theorem QFj (p:Nf) (x:Nd) (to:Nx):Qri p x to=some true:=by
 unfold Qri;rw [QMb,Qj,Ea,cond_false];rcases QJs p with ⟨hf,hS,_⟩ | hf
 rotate_left
 ·have hb:Qga p=some false:=by unfold Qga;rw [hf];rfl
  rw [hb];rfl
 have htb:∃ b,Qga p=some b:=by unfold Qga;rw [hf];exact ⟨_,rfl⟩
 obtain ⟨b,hb⟩:=htb;rw [hb,Qj];cases b with
 | false=>rfl
 | true =>
 simp only [Ea,Eb,cond_true];rcases QJt x with ⟨hx,hX⟩ | hx
 rotate_left
 ·rw [hx];rfl
 rw [hx,Qj];simp only [Ea,Ed,Eb,cond_true];rw [QRv hS,Qj];by_cases hp0:(Jy p).2=0
 rotate_left
 ·rw [decide_eq_false hp0];rfl
 have hp:=Qnq hp0;rw [decide_eq_true hp0];simp only [Ea,Ed,Eb,cond_true];rw [QRx hS hp hX,Qj];by_cases hs0:Qev p x=0
 rotate_left
 ·rw [decide_eq_false hs0];rfl
 have hxo:=state_iff.1 hs0;rw [decide_eq_true hs0];simp only [Ea,Ed,Eb,cond_true];rw [QRz hS,Qj];cases h1:Zt p to.e0 with
 | false=>rfl
 | true =>
 rw [show (bif true then (0:Int) else 6)=0 from rfl,decide_eq_true rfl];simp only [Ea,Ed,Eb,cond_true];rw [QBs hS,Qj];cases h2:XQ p to.e1 with
 | false=>rfl
 | true =>
 rw [show (bif true then (0:Int) else 6)=0 from rfl,decide_eq_true rfl];simp only [Ea,Ed,cond_false];rw [Qwy hS,Qj,Qqr hX,Qj];obtain ⟨l,e,g1,g2⟩:=Qyy hS hX (Qgo hp0 hxo) h1 h2;rw [g1,Qj];rcases g2 with ⟨_,rfl,rfl⟩ | ⟨_,rfl,rfl⟩ | ⟨g2,rfl,y,g3,g4,g5⟩
 ·rfl
 ·rfl
 have hsh:=QWt hp hxo h1 h2 g2;dsimp only;rw [decide_eq_true rfl,Ea,cond_false,decide_eq_false (by omega),cond_false,Qj];have hlp:=QDu hS hp0 h1 h2 g5 (L:=l) (by omega) l 0 (List.drop_zero ..) hxo g3 g2;rw [show ((0:Nat):Int)=0 from rfl] at hlp;rw [hlp,Qj];show Option.bind (idx y.Na to.e0) _=_;obtain ⟨k,hk,hkl⟩:=Quy g4 h1;obtain ⟨c1,c2⟩:=QEb g4 (Ec hkl);have hch:=(g4.s hp).ch _ (Ec hkl);have hst:Y5 to y=decide (to.e1∈y.Na[k].Nc.take y.Na[k].Nm.toNat):=by
  unfold Y5;rw [hk,Int.toNat_natCast,List.getElem?_eq_getElem hkl]
 have hmem:to.e1∈y.Na[k].Nc.take y.Na[k].Nm.toNat:=by
  rw [hst] at g5;exact of_decide_eq_true g5
 have hun:0<=y.Na[k].Nm/\y.Na[k].Nm<=(y.Na[k].Nc.length:Int):=by
  rcases g4.un _ (Ec hkl) with ⟨q1,q2⟩ | ⟨q1,q2⟩
  ·rw [q1,q2];simp
  ·omega
 obtain ⟨hh,hta⟩:=QKn g4 hkl (List.mem_of_mem_take hmem);rw [hk,Xh hkl,Qj,Qec,Qj,decide_eq_true hun.1,decide_eq_true hun.2,Bool.and_self,cond_true,c1,Qj,Qic _ _ (by omega),Qj,decide_eq_true hmem,Ea,Qj,cond_false,Qj,Que,QLj hS (g4.s hp),if_pos (Qgo hp0 g4),h2,hta,hh,cond_true,cond_true,Qj];by_cases hk0:(0:Int) < (k:Int)
 ·rw [if_pos hk0];simp
 ·rw [if_neg hk0];have:k=0:=by omega
  subst this;rfl
end Go.Gw
