/- The law TopLockTold: events told by texts and by telegrams lead where they lead. Condition: numbers of 64 bits. -/
import Derived.Test.YtbigilldfhjedaaGreatDoorGwLawTopLockTold
import Derived.Test.YtbigilldfhjedaaGreatDoorGwLck16
import Derived.Test.YtbigilldfhjedaaGreatDoorGwOpens
set_option linter.unusedVariables false
set_option linter.unusedSimpArgs false
set_option linter.unusedSectionVars false
set_option maxRecDepth 4096
set_option linter.unusedVariables false
set_option linter.unusedSectionVars false
open Go.Gw.Runs renaming call→Ea,some→Ec,bif_f→Ed
open Bool renaming and_eq_true→Eb
namespace Go.Gw
open Go
theorem QYf:Qrk=some true:=by decide +kernel
attribute [local irreducible] loop
theorem QXx {v:Nj} {c:Int} (h:(tel v c).2=0):X7 (tel v c).1=0:=by
 unfold tel at h ⊢;cases hk:Qao v.Kind
 ·rw [hk] at h;cases h
 rw [hk] at h;cases hb:((Xj v.A&&Xj v.B)&&Xj c)
 ·rw [hb] at h;cases h
 simp at hb;obtain ⟨⟨ha,hb'⟩,hc⟩:=hb;have h0:Xj v.Kind=true:=by unfold Qao at hk;unfold Xj;simp at hk ⊢;omega
 have h4:Xj (JC (Nh.mk v.Kind v.A v.B c 0))=true:=by rw [QHk (by exact h0) (by exact ha) (by exact hb') (by exact hc),Qxp];omega
 have:JC (Nh.mk v.Kind v.A v.B c (JC (Nh.mk v.Kind v.A v.B c 0)))=JC (Nh.mk v.Kind v.A v.B c 0):=rfl;show X7 (Nh.mk v.Kind v.A v.B c (JC (Nh.mk v.Kind v.A v.B c 0)))=0;unfold X7;simp [h0,ha,hb',hc,h4,hk,this]
theorem QYs {s t:Nh} (h:X7 t=0):JR s t t=some t:=by
 unfold JR;by_cases h1:X7 s=0/\(s=t\/s=t)
 ·rw [if_pos h1];rcases h1.2 with e | e<;>rw [e]
 ·rw [if_neg h1,if_pos ⟨h,.inr rfl⟩]
theorem QYt {s t:Nh} (h:X7 t=0):JR t s t=some t:=by
 unfold JR;rw [if_pos ⟨h,.inr rfl⟩]
theorem QYu {s t:Nh} (h:X7 t=0):JR t t s=some t:=by
 unfold JR;rw [if_pos ⟨h,.inl rfl⟩]
def wc (x:Ng) (c:Int):Ng:=⟨x.Na,x.Nb,c⟩
theorem QJc (p:Nf) (x:Ng) (c:Int) (e:Nj):Ze p (wc x c) e=Ze p x e:=rfl
theorem QDm (p:Nf) (x:Ng) (c:Int) (e:Nj):(YR p (wc x c) e).Na=(YR p x e).Na/\(YR p (wc x c) e).Nb=(YR p x e).Nb:=by
 unfold YR wc;by_cases h:e.Kind=2
 ·rw [if_pos h,if_pos h];exact ⟨rfl,rfl⟩
 ·rw [if_neg h,if_neg h];exact ⟨rfl,rfl⟩
theorem Qtm {p:Nf} {x:Ng} (h:StateOk p x) {c:Int} (hc:Xj c=true):StateOk p (wc x c) :=
 ⟨h.sw,h.tr,h.pos,hc,h.un,h.sc,h.nd,h.dj,h.ld⟩
theorem QJd {p:Nf} (hp:PlantOk p) {e:Nj} (h:ZF p e=0):(0<=e.Kind/\e.Kind<=6)/\Z3 e.A/\Z3 e.B/\(¬ e.Kind<=2->e.B=0):=by
 have h1:=hp.s8;have h2:=hp.t3;have h3:=hp.w4;have h4:=hp.r10;unfold ZF at h;unfold Z3;split at h
 ·exact absurd h (by decide)
 rename_i hk;have hk:=Decidable.not_not.1 hk;split at h
 ·cases hs:Qek p e.A with
  | false=>rw [hs] at h;exact absurd h (show ¬ (6:Int)=0 by decide)
  | true =>
   cases hb:YS e.B with
   | false=>rw [hs,hb] at h;exact absurd h (by decide)
   | true =>
    unfold Qek at hs;unfold YS at hb;rw [Eb,decide_eq_true_eq,decide_eq_true_eq] at hs;rw [Bool.or_eq_true,decide_eq_true_eq,decide_eq_true_eq] at hb;omega
 ·cases ht:Qbo p e.A with
  | false=>rw [ht] at h;exact absurd h (show ¬ (6:Int)=0 by decide)
  | true =>
   rw [ht,cond_true] at h;unfold Qbo at ht;rw [Eb,decide_eq_true_eq,decide_eq_true_eq] at ht;split at h
   ·cases hs:YB p e.B with
    | false=>rw [hs] at h;exact absurd h (by decide)
    | true =>
     unfold YB at hs;rw [Eb,decide_eq_true_eq,decide_eq_true_eq] at hs;omega
   ·split at h
    ·cases hs:Qeh p e.B with
     | false=>rw [hs] at h;exact absurd h (by decide)
     | true =>
      unfold Qeh at hs;rw [Eb,decide_eq_true_eq,decide_eq_true_eq] at hs;omega
    ·split at h
     ·omega
     ·exact absurd h (by decide)
theorem QPi {k:Nat} (h:k < 1000):Qhh (k:Int) 3=some (((k % 3:Nat)):Int):=by
 unfold Qhh;have e:rem (k:Int) 3=some ((k % 3:Nat):Int):=by
  unfold rem;rw [if_neg (by decide)];rfl
 rw [e,Qr,decide_eq_false (by omega)];rfl
theorem QYd {p:Nf} (hp:PlantOk p) {x:Ng} (h:StateOk p x) {k:Nat} (hk:k<=50):Told (wc x (k:Int))/\x.Nb.length<=3:=by
 have h1:=hp.s8;have h3:=hp.t3;have h4:=hp.t1;have htr:=h.tr;refine ⟨⟨?_,fun n hn=>?_,?_,?_,⟨?_,?_⟩,fun t ht=>⟨h.un t ht,?_,fun s hs=>?_⟩⟩,by omega⟩
 ·have:=h.sw;have:=hp.w4;show x.Na.length<=60;omega
 ·have:=h.pos n hn;unfold YS at this;simpa using this
 ·show 1<=x.Nb.length;omega
 ·show x.Nb.length<=20;omega
 ·show (0:Int)<=(k:Int);omega
 ·show ((k:Nat):Int) < 100;omega
 ·have:=h.len (t:=t) ht;omega
 ·have:=h.sc t ht s hs;unfold YB at this;rw [Eb,decide_eq_true_eq,decide_eq_true_eq] at this;exact ⟨this.1,by omega⟩
theorem QYa {e:Nj} {c:Int} (hk:Qao e.Kind=true) (ha:Xj e.A=true) (hb:Xj e.B=true) (hc:Xj c=true):tel e c=(Nh.mk e.Kind e.A e.B c (JC (Nh.mk e.Kind e.A e.B c 0)),0):=by
 unfold tel;rw [hk,ha,hb,hc];rfl
theorem Qfd {n:Int} (h:0<=n/\n<=250):Xj n=true:=by
 unfold Xj;rw [decide_eq_true h.1,decide_eq_true h.2];rfl
theorem QTu {p:Nf} (hS:PlantS p) (hp:PlantOk p) (h0:(Y0 p).2=0) {x:Ng} (hx:StateOk p x) {k:Nat} (hk:k<=100) {e:Nj} (he:Ze p x e=0) {l3:Nx} {t:Nh} (ht:tel e (k:Int)=(t,0)) (hv:JR l3.e0 l3.e1 l3.e2=some t) (h3:t.e3=(k:Int)) (hte:Nj.mk t.e0 t.e1 t.e2=e) :
  Qhz p (wc x (k:Int)) l3=some (wc (YR p x e) ((k+1:Nat):Int),0):=by
 have hb:Xj (k:Int)=true:=Qfd (by omega);have hok:=Qtm hx hb;have ho:=QSu h0 hok;rw [QMq hS (hok.s hp),if_pos ho];unfold Qtu;rw [hv];show some (if t.e3=(wc x (k:Int)).Ni then (if Ze p (wc x (k:Int)) (Nj.mk t.e0 t.e1 t.e2)=0 then (Ng.mk (YR p (wc x (k:Int)) (Nj.mk t.e0 t.e1 t.e2)).Na (YR p (wc x (k:Int)) (Nj.mk t.e0 t.e1 t.e2)).Nb (Int.tmod (t.e3+1) 251),0) else _) else _)=_;rw [if_pos (show t.e3=(wc x (k:Int)).Ni from h3),hte,QJc,if_pos he,(QDm p x (k:Int) e).1,(QDm p x (k:Int) e).2,h3];have:Int.tmod ((k:Int)+1) 251=((k+1:Nat):Int):=by
  rw [Int.tmod_eq_of_lt (by omega) (by omega)];omega
 rw [this];rfl
theorem QYc {p:Nf} (hS:PlantS p) (hp:PlantOk p) (h0:(Y0 p).2=0) {l:List Nj} {s6:Nz} {y:Ng} (hl:l.length<=16) (hv:∀ e∈l,V28 e) (hy:evs p (ZS p) 0 l=.inl y) :
  loop (Qri p s6 l) (0,(ZS p).Na,(ZS p).Nb,(ZS p).Ni)=some (.inr (y.Na,y.Nb,(l.length:Int))):=by
 refine Runs.eq (Runs.loop (fun s=>∃ (k:Nat) (x:Ng),s=((k:Int),x.Na,x.Nb,(k:Int))/\k<=l.length/\StateOk p x/\evs p x k (l.drop k)=.inl y) (fun s=>l.length - s.1.toNat) ⟨0,ZS p,rfl,Nat.zero_le _,Qkm,hy⟩ ?_);rintro _ ⟨k,x,rfl,hk,hx,hev⟩;unfold Qri;by_cases hi:k < l.length
 ·rw [List.drop_eq_getElem_cons hi,Qlc] at hev;have hm:=List.getElem_mem hi;generalize hel:l[k]=e at hev hm;have hix:idx l (k:Int)=some e:=by rw [<-hel];exact Xq hi
  by_cases h1:Ze p x e=0
  rotate_left
  ·rw [if_neg h1] at hev;cases hev
  rw [if_pos h1] at hev;obtain ⟨h2,_,h4⟩:=Qrb hp hx h1;obtain ⟨hkd,hA,hB,hB0⟩:=QJd hp h2;have hA':=hA.2;have hA0:=hA.1;have hB':=hB.2;have hB00:=hB.1;obtain ⟨hfe,hpe⟩:=QJe hkd hA hB hB0;have hkB:Qao e.Kind=true:=by
   unfold Qao;rw [decide_eq_true hkd.1,decide_eq_true hkd.2];rfl
  have ht:=QYa (e:=e) (c:=(k:Int)) hkB (Qfd (by omega)) (Qfd (by omega)) (Qfd (by omega));generalize htt:Nh.mk e.Kind e.A e.B (k:Int) (JC (Nh.mk e.Kind e.A e.B (k:Int) 0))=t at ht;have hE:X7 t=0:=by
   have:=QXx (v:=e) (c:=(k:Int)) (by rw [ht]);rw [ht] at this;exact this
  obtain ⟨r,hr⟩:∃ r,k % 3=r:=⟨_,rfl⟩;have hr3:r=0\/r=1\/r=2:=by omega
  have hmod:Qhh (k:Int) 3=some ((r:Nat):Int):=by rw [<-hr];exact QPi (by omega)
  have hb1:Xj ((k+1:Nat):Int)=true:=Qfd (by omega);have hok':=Qtm h4 hb1;have hS':=hok'.s hp;have hSk:=(Qtm hx (Qfd (n:=(k:Int)) (by omega))).s hp;obtain ⟨htd,ht3⟩:=QYd hp h4 (k:=k+1) (by omega);have hps:=QWe htd ht3;have hfs:=QKx htd;refine Runs.bif_t (XN hi) (Ea hix (Ea hfe (Ea hpe (Ea (QXy _ _) (Ea (b:=e) hix (Ed ?_ (Ea hmod (Ea (b:=t) ?_ (Runs.callR (R:=fun q=>q=(0,(YR p x e).Na,(YR p x e).Nb,((k+1:Nat):Int))) ?_ ?_)))))))))
  ·show (((!decide ((0:Int)=0))||(!(decide (e=e))))||(!decide ((tel e (k:Int)).2=0)))=false;rw [ht,decide_eq_true (p:=e=e) rfl];rfl
  ·show idx [(tel e (k:Int)).1,(tel e (k:Int)).1,(tel e (k:Int)).1] ((r:Nat):Int)=some t;rw [ht,Xq?];rcases hr3 with rfl | rfl | rfl<;>rfl
  ·refine Ea (Qqq hS) (Ea (Qxu hSk) (Ea (b:=(wc (YR p x e) ((k+1:Nat):Int),0)) (QTu hS hp h0 hx (by omega) h1 ht ?_ ?_ ?_) (Ec rfl)))
   ·show JR (Nh.mk _ _ _ _ _) (Nh.mk _ _ _ _ _) (Nh.mk _ _ _ _ _)=some t;rw [ht];rcases hr3 with rfl | rfl | rfl
    ·exact QYs hE
    ·exact QYt hE
    ·exact QYu hE
   ·rw [<-htt]
   ·rw [<-htt]
  rintro _ rfl;refine Ea (Qxu (x:=wc (YR p x e) ((k+1:Nat):Int)) hS') (Ea hfs (Ea hps (Ea (b:=true) ?_ (Ed ?_ (Ec ⟨⟨k+1,YR p x e,?_,hi,h4,hev⟩,?_⟩)))))
  ·exact (QCy hS' _).trans (by rw [decide_eq_true];rfl)
  ·show ((((!decide ((0:Int)=0))||(!decide ((0:Int)=0)))||(!true))||(!decide (((k+1:Nat):Int)=w64 ((k:Int)+1))))=false;rw [Xz k (by omega),decide_eq_true (p:=((k+1:Nat):Int)=((k+1:Nat):Int)) rfl];rfl
  ·rw [Xz k (by omega)];rfl
  ·show l.length - (w64 ((k:Int)+1)).toNat < l.length - ((k:Nat):Int).toNat;rw [Xz k (by omega)];simp;omega
 ·obtain rfl:k=l.length:=by omega
  rw [List.drop_length] at hev;cases hev;exact Ed (XP _) (Ec rfl)
theorem QFw (p:Nf) (l:List Nj) (s:Nz) (_:V26 p) (hl:(∀ e∈l,V28 e)/\l.length<=maxLen) (_:V56 s):Qrj p l s=some true:=by
 refine Runs.eq ?_;unfold Qrj;refine Ea QYf (Ed rfl ?_);rcases QKw p with ⟨f1,hS,_⟩ | f1
 rotate_left
 ·exact Ea f1 (Ea (b:=default) rfl (Runs.bif_t rfl (Ec rfl)))
 refine Ea f1 ?_;by_cases h16:l.length<=16
 rotate_left
 ·have hd:decide (16 < (l.length:Int))=true:=decide_eq_true (by omega);exact Ea (b:=default) (by rw [hd];rfl) (Runs.bif_t (by rw [hd];rfl) (Ec rfl))
 have hd:decide (16 < (l.length:Int))=false:=decide_eq_false (by omega);refine Ea (b:=(Y0 p).2) (by rw [hd];exact QTq hS) (Runs.bif (fun _=>Ec rfl) (fun hb=>?_));have h0:(Y0 p).2=0:=by
  rw [hd] at hb;simpa using hb
 have hp:=Qnk h0;refine Ea (Qqq hS) (Ea (QHu l (by omega)) (Ea (QUc hS l (by omega)) (Runs.bif (fun _=>Ec rfl) (fun hr=>?_))));have hr0:(Qjc p l).2.2=0:=by simpa using hr
 obtain ⟨y,hy,hre⟩:∃ y,evs p (ZS p) 0 l=.inl y/\(Qjc p l).1=y:=by
  unfold Qjc at hr0 ⊢;rw [if_pos h0,if_pos (by omega)] at hr0 ⊢;cases hE:evs p (ZS p) 0 l with
  | inl y=>exact ⟨y,rfl,rfl⟩
  | inr q =>
   exfalso;rw [hE] at hr0;have:∀ (m:List Nj) (x:Ng) (k:Nat) (q:Nat×Int),evs p x k m=.inr q->q.2≠0:=by
    intro m
    induction m with
    | nil=>intro x k q h;cases h
    | cons e m ih =>
     intro x k q h;rw [Qlc] at h;split at h
     ·exact ih _ _ _ h
     ·rename_i hne;cases h;exact hne
   exact this l _ _ q hE hr0
 have hyok:=Qre hp l Qkm hy;have hbg:Qhx p=some (ZS p,0):=by rw [QMn hS,if_pos h0]
 refine Ea (Qqq hS) (Ea hbg (Ed rfl (Ea (QYc hS hp h0 h16 hl.1 hy) (Runs.jr (Ea (b:=true) ?_ (Ec rfl))))));rw [hre];have:Qeg y y=some true:=QVd (hyok.s hp);exact this
end Go.Gw
