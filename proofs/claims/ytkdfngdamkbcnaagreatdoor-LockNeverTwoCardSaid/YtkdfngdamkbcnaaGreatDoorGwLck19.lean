/- Laws of the walk. Condition: each theorem says its own. -/
import Derived.Test.YtkdfngdamkbcnaaGreatDoorGwAwakeLock
import Derived.Test.YtkdfngdamkbcnaaGreatDoorGwOnA
set_option linter.unusedVariables false
set_option linter.unusedSimpArgs false
set_option linter.unusedSectionVars false
section
set_option maxRecDepth 4096
namespace Go.Gw
open Go
attribute [local irreducible] loop
theorem QBr {α:Type} {p:α->Bool}:∀ (l:List α) (m:Nat),(Yv p (fun k _=>(k:Int)) m l=.inr ()/\l.any p=false)\/∃ j,∃ h:j < l.length,Yv p (fun k _=>(k:Int)) m l=.inl ((m+j:Nat):Int)/\p l[j]=true
 | [],m=>.inl ⟨rfl,rfl⟩
 | x::l,m=>by
  by_cases hp:p x=true
  ·exact .inr ⟨0,by simp,by simp [Yv,hp],by simpa using hp⟩
  ·rcases QBr (p:=p) l (m+1) with ⟨h1,h2⟩ | ⟨j,hj,h1,h2⟩
   ·exact .inl ⟨by simp [Yv,hp,h1],by simp [hp,h2]⟩
   ·exact .inr ⟨j+1,by simpa using hj,by simp only [Yv,hp];rw [h1];simp;omega,by simpa using h2⟩
theorem QJn {α:Type} (p:α->Bool) (l:List α):(Qbf p l=-1/\l.any p=false)\/∃ j,∃ h:j < l.length,Qbf p l=(j:Int)/\p l[j]=true:=by
 unfold Qbf;rcases QBr (p:=p) l 0 with ⟨h1,h2⟩ | ⟨j,hj,h1,h2⟩
 ·exact .inl ⟨by rw [h1],h2⟩
 ·exact .inr ⟨j,hj,by rw [h1];simp,h2⟩
theorem Qzi {α:Type} {l:List α} (h:l.Nodup) {i j:Nat} (hi:i < l.length) (hj:j < l.length) (e:l[i]=l[j]):i=j:=by
 unfold List.Nodup at h;rw [List.pairwise_iff_getElem] at h;rcases Nat.lt_trichotomy i j with h1 | h1 | h1
 ·exact absurd e (h i j hi hj h1)
 ·exact h1
 ·exact absurd e.symm (h j i hj hi h1)
theorem QJq {p:Nf} (hp:PlantOk p) {x:Nh} (h2:x.Nc.length=p.Nc.length) (a b:Int):Qlo (some ⟨p,x⟩) a b=some (Qbg p x.Nc a b):=by
  have hw4:=hp.w4;have hr10:=hp.r10;have hs8:=hp.s8;unfold Qlo Qbg;rw [Qv,Zt p.Ni (fun r=>Qaq r a b&&ZP p x.Nc r [a,b]) (fun _ _=>true),Qv]
  · rcases JW (p:=fun r=>Qaq r a b&&ZP p x.Nc r [a,b]) (res:=fun _ _=>true) p.Ni 0 with ⟨k1,k2⟩ | ⟨j,y,k1,k2,k3⟩
    · rw [k1,k2];rfl
    · rw [k1,k3];rfl
  · intro k hk;have hr:=List.getElem_mem hk;unfold Qrp;simp only [XZ hk,cond_true,Xu hk,Qv];generalize p.Ni[k]=r at hr ⊢;have hr2:=hp.r2 r hr;have hr8:=hp.r8 r hr;have hrd:=hp.rd r hr;rw [Qxi _ _ (by omega),Qv,Qxp (hp.rn r hr) h2 (by omega) (by simp),XI k (by omega)];rcases QJn (fun x=>decide (a=x)) r.Nb with ⟨h3,h4⟩ | ⟨j,hj,h3,h4⟩
    · rw [h3];have h5:Qaq r a b=false:=by
        cases hb:Qaq r a b with
        | false=>rfl
        | true =>
          obtain ⟨j,hj,h6,_⟩:=pairB_iff.1 hb;rw [Qvl,decide_eq_false_iff_not] at h4;exact absurd (h6▸List.getElem_mem _) h4
      rw [h5];rfl
    · rw [h3];have h4:a=r.Nb[j]:=by simpa using h4
      rw [decide_eq_true (show (0:Int)<=(j:Int) by omega),XI j (by omega)];by_cases h5:j+1 < r.Nb.length
      · rw [XZ h5];simp only [Bool.and_self,cond_true];rw [Xu h5,Qv];have h6:Qaq r a b=decide (r.Nb[j+1]=b):=by
          rw [Bool.eq_iff_iff,pairB_iff,decide_eq_true_eq];constructor
          · rintro ⟨i,hi,h7,h8⟩;have:i=j:=Qzi hrd (by omega) hj (h7.trans h4);subst this;exact h8
          · intro h7;exact ⟨j,h5,h4.symm,h7⟩
        rw [h6];cases decide (r.Nb[j+1]=b)<;>rfl
      · rw [decide_eq_false (show ¬ ((j+1:Nat):Int) < r.Nb.length by omega)];have h6:Qaq r a b=false:=by
          cases hb:Qaq r a b with
          | false=>rfl
          | true =>
            obtain ⟨i,hi,h7,_⟩:=pairB_iff.1 hb;have:i=j:=Qzi hrd (by omega) hj (h7.trans h4);omega
        rw [h6];rfl
  · unfold Qrp;simp only [X2];rfl
theorem Qwu {α:Type} (g:α->Bool):∀ (l:List α) (k:Nat) (b:Bool),fld (fun (_:Nat) (a:Bool) (x:α)=>a||g x) k b l=(b||l.any g)
 | [],k,b=>by simp [fld]
 | x::l,k,b=>by
  unfold fld;rw [Qwu g l];simp [Bool.or_assoc]
theorem QFa (l:List Nl) (h:∀ t∈l,t.Ng.length < 1000) (hl:l.length < 1000) (s:Int) (b:Bool):loop (Qhz s l) (b,0)=some (b||l.any fun o=>decide (s∈o.Ng)):=by
 have:=(QLp (step:=Qhz s l) l (fun _ (c:Bool) o=>c||decide (s∈o.Ng)) (fun c k=>(c,(k:Int))) (fun c=>c) (fun _ _=>True) b trivial (fun k hk c _=>by
  refine ⟨?_,trivial⟩;unfold Qhz;simp only [XZ hk,cond_true,Xu hk,Qv,XI k (show k < 4611686018427387904 by omega),Qea _ _ (show l[k].Ng.length < 1000000 by have:=h _ (List.getElem_mem hk);omega)];cases c<;>rfl) (fun c _=>by
  unfold Qhz;simp only [X2];rfl)).1
 rw [Qwu] at this;exact this
theorem QVc (t:Nl):Jy t.Nr (if (t.Ng.length:Int) < 1 then (t.Ng.length:Int) else 1) (t.Ng.length:Int)=some (Qcn t):=by
 rw [Qup];congr 1;unfold Qcn;by_cases h0:t.Ng.length=0
 ·rw [if_pos h0,if_pos (show (t.Ng.length:Int) < 1 by omega),Bool.eq_iff_iff];simp only [Bool.and_eq_true,decide_eq_true_eq];omega
 ·rw [if_neg h0,if_neg (show ¬ (t.Ng.length:Int) < 1 by omega)]
theorem QJp {p:Nf} (hS:PlantS p) (hp:PlantOk p) {x:Nh} (h:StateS x) (h2:x.Nc.length=p.Nc.length) (n:Nat) (hn:n < x.Na.length):Qlm (some ⟨p,x⟩) (n:Int)=some (Qau p x n):=by
  have hs:Qau p x n=tsE p x n x.Na[n]:=Jl _ _ _ hn;have hc:=h.ch _ (List.getElem_mem hn);have hl:=h.tr;rw [hs];unfold Qlm tsE;simp only [Qv,Xu hn];rw [QVc,Qv];cases Qcn x.Na[n]
  · rfl
  simp only [Bool.not_true,cond_false,cond_true];have key:loop (Qll x.Na[n] (some ⟨p,x⟩) (n:Int)) 0=some (match XP (Qbv p x n x.Na[n]) x.Na[n].Ng.length with | some i=>.inl (Qbv p x n x.Na[n] i) | none=>.inr ()) :=
    Qbh (fun k=>(k:Int)) x.Na[n].Ng.length (Qbv p x n x.Na[n]) (fun _ e=>e) () (fun k hk _=>by
      have hs:Qbv p x n x.Na[n] k=chE p x n x.Na[n] k x.Na[n].Ng[k]:=Jl _ _ _ hk;rw [hs];unfold Qll chE;simp only [XZ hk,cond_true,Xu hk,Qv];rw [Qcy (by omega),Qv,Qea _ _ (by simp;omega),Qv,Qcy (by omega),Qv,
        QFa _ (fun t ht=>h.ch t (List.mem_of_mem_take ht)) (by simp;omega),Qv,QAz hS,Qv,Yx,Qv,XI k (by omega)]
      generalize (decide (x.Na[n].Ng[k]∈x.Na[n].Ng.take k)||(x.Na.take n).any fun o=>decide (x.Na[n].Ng[k]∈o.Ng))=bb;by_cases hk0:k=0
      · subst hk0;simp only [Int.natCast_zero,decide_true,Bool.not_true,cond_false,Qv,Bool.true_or,if_true,Yx,cond_true];rw [ZE _ (by simp),Qv,Qfr];cases YA p x.Na[n].Ng[0]<;>cases bb<;>rfl
      · rw [decide_eq_false (show ¬ (k : Int) = 0 by omega), show w64 ((k : Int) - 1) = ((k - 1 : Nat) : Int) by rw [Xw (by omega)]; omega,
          show (if (0:Int) < ((k - 1:Nat):Int) then ((k - 1:Nat):Int) else 0)=((k - 1:Nat):Int) by split<;>omega]
        simp only [Bool.not_false,cond_true,Xu (show k - 1 < x.Na[n].Ng.length by omega),Qv,QJq hp h2,if_neg hk0,List.getElem?_eq_getElem (show k - 1 < x.Na[n].Ng.length by omega),Option.getD_some,Bool.false_or,Yx];rw [ZE _ (by simp),Qv,Qfr];cases YA p x.Na[n].Ng[k]<;>cases bb<;>cases Qbg p x.Nc x.Na[n].Ng[k - 1] x.Na[n].Ng[k]<;>rfl) (fun _=>by
      unfold Qll;simp only [X2];rfl)
  rw [key,Qv];cases XP (Qbv p x n x.Na[n]) x.Na[n].Ng.length<;>rfl
theorem QQc (l:List Int) (hl:l.length < 1000):Qnp l=some (!(l.all Y2)):=by
 unfold Qnp Qtq;rw [Zt l (fun n=>!(Y2 n)) (fun k _=>(k:Int)),Qv,Qeu,Qv,Qgn]
 ·rw [List.all_eq_not_any_not,Bool.not_not]
 ·intro k hk;unfold Qtp;rw [XZ hk,Xu hk,XI k (by omega)];rfl
 ·unfold Qtp;rw [X2];rfl
def Qbi (p:Nf) (x:Nh):Int:=if (ZG p).2=0 then Qnz p x else (ZG p).2
theorem QPl {p:Nf} (hS:PlantS p) {x:Nh} (h:StateS x):Qlu p x=some (if Qbi p x=0 then (some ⟨p,x⟩,0) else (none,Qbi p x)):=by
  have h1:=h.sw;have h2:=h.tr;have h3:=hS.sw;have h4:=hS.tr;unfold Qlu Qbi;rw [QQc _ (by omega),Qv,Qsq hS,Qv,Yx,Qv,Bool.not_not];by_cases hp0:(ZG p).2=0
  · have hp:=Qmm hp0;simp only [if_pos hp0,hp0];unfold Qnz;by_cases hl:x.Nc.length=p.Nc.length/\x.Na.length=p.Na.length
    · rw [if_pos hl,decide_eq_true (show (x.Nc.length:Int)=p.Nc.length by omega),decide_eq_true (show (x.Na.length:Int)=p.Na.length by omega)];have e1:∀ (f:Bool->Option (Option Nm×Int)),(Option.bind (bif x.Nc.all Y2 then Qde x.Nk else some default) f)=f (bif x.Nc.all Y2 then Qcw x.Nk else default):=fun f=>by
        cases x.Nc.all Y2<;>rfl
      rw [e1,Yx,Qv,ZE _ (by simp),Qv,Qfr];cases ha:x.Nc.all Y2
      · rfl
      · cases hb:Qcw x.Nk
        · rfl
        · simp only [Bool.and_self,cond_true,ne_eq,not_true_eq_false,if_false,decide_true,Bool.not_true,cond_false];have key:loop (Qlt p x) 0=some (match XP (Qau p x) x.Na.length with | some i=>.inl (none,Qau p x i) | none=>.inr ()) :=
            Qbh (fun k=>(k:Int)) x.Na.length (Qau p x) (fun _ e=>(none,e)) () (fun k hk _=>by
              unfold Qlt;rw [XZ hk,cond_true,QJp hS hp h hl.1 k hk,Qv,XI k (by omega)];by_cases h5:Qau p x k=0
              · rw [if_pos h5,decide_eq_true h5];rfl
              · rw [if_neg h5,decide_eq_false h5];rfl) (fun _=>by
              unfold Qlt;rw [X2];rfl)
          rw [key,Qv];cases hf:XP (Qau p x) x.Na.length with
          | some i =>
            have h5:=(Qbd hf).2.1;simp [Xx,h5]
          | none=>rfl
    · rw [if_neg hl, show (decide ((x.Nc.length : Int) = p.Nc.length) && decide ((x.Na.length : Int) = p.Na.length)) = false by
        rw [Bool.and_eq_false_iff,decide_eq_false_iff_not,decide_eq_false_iff_not];omega]
      have e1:∀ (f:Bool->Option (Option Nm×Int)),(Option.bind (bif x.Nc.all Y2 then Qde x.Nk else some default) f)=f (bif x.Nc.all Y2 then Qcw x.Nk else default):=fun f=>by
        cases x.Nc.all Y2<;>rfl
      rw [e1,Yx,Qv,ZE _ (by simp),Qv,Qfr];rfl
  · simp only [if_neg hp0];have e1:∀ (f:Bool->Option (Option Nm×Int)),(Option.bind (bif x.Nc.all Y2 then Qde x.Nk else some default) f)=f (bif x.Nc.all Y2 then Qcw x.Nk else default):=fun f=>by
      cases x.Nc.all Y2<;>rfl
    rw [e1,Yx,Qv,ZE _ (by simp),Qv,Qfr,if_pos hp0,decide_eq_false hp0];rfl
theorem QPm {p:Nf} {x:Nh} (h:Qbi p x=0):PlantOk p/\StateOk p x/\(ZG p).2=0:=by
 unfold Qbi at h;by_cases hp0:(ZG p).2=0
 ·rw [if_pos hp0] at h;exact ⟨Qmm hp0,state_iff.1 h,hp0⟩
 ·rw [if_neg hp0] at h;exact absurd h hp0
theorem Qzs {p:Nf} {x:Nh} (h0:(ZG p).2=0) (h:StateOk p x):Qbi p x=0:=by
 unfold Qbi;rw [if_pos h0];exact state_iff.2 h
def Qkf (p:Nf) (x:Nh) (e:Nj):Nh×Int:=if Qbi p x=0 then (if ZN p x e=0 then (Zo p x e,0) else (Qfd,ZN p x e)) else (Qfd,Qbi p x)
theorem Qxj {p:Nf} (hS:PlantS p) {x:Nh} (h:StateS x) (e:Nj):Qhu p x e=some (Qkf p x e):=by
 unfold Qhu Qkf;rw [QPl hS h,Qv];by_cases h0:Qbi p x=0
 ·obtain ⟨hp,hx,_⟩:=QPm h0;simp only [if_pos h0,decide_true,cond_true];rw [Qwr hS,Qv,Qv];unfold ZN;by_cases h1:YX p e=0
  ·obtain ⟨r,hr,h2,h3⟩:=Qvp hp hx h1;simp only [if_pos h1,decide_eq_true h1,cond_true];rw [hr,Qv,Qv,h2];by_cases h4:ZS p x e=0
   ·rw [if_pos h4,h3 h4,decide_eq_true h4];simp only [Bool.not_true,cond_false];rw [QCo p ((Qty hp hx h1 h4).s hp)];rfl
   ·rw [if_neg h4,decide_eq_false h4];rfl
  ·simp only [if_neg h1,decide_eq_false h1,cond_false,Qv,Bool.not_false,cond_true];rfl
 ·simp only [if_neg h0,decide_eq_false h0,cond_false,Qv,Bool.not_false,cond_true];rfl
end Go.Gw

end
section
set_option maxRecDepth 4096
namespace Go.Gw
open Go
attribute [local irreducible] loop
end Go.Gw

end
section
set_option linter.unusedVariables false
namespace Go.Gw
structure Seg {α:Type} (a b:Nat) (xs ys:List α):Prop where
 len:ys.length=xs.length
 out:∀ k,(k < a\/b<=k)->ys[k]?=xs[k]?
 into:∀ k y,a<=k->k < b->ys[k]?=some y->∃ k',a<=k'/\k' < b/\xs[k']?=some y
 perm:ys.Perm xs
theorem Seg.refl {α:Type} {a b:Nat} {xs:List α}:Seg a b xs xs:=⟨rfl,fun _ _=>rfl,fun k _ h1 h2 h=>⟨k,h1,h2,h⟩,.refl _⟩
theorem Seg.trans {α:Type} {a b:Nat} {xs ys zs:List α} (h:Seg a b xs ys) (k:Seg a b ys zs):Seg a b xs zs :=
 ⟨k.len.trans h.len,fun i hi=>(k.out i hi).trans (h.out i hi),fun i y h1 h2 h3=>by
  obtain ⟨i',h4,h5,h6⟩:=k.into i y h1 h2 h3;exact h.into i' y h4 h5 h6,k.perm.trans h.perm⟩
theorem Seg.mono {α:Type} {a b a' b':Nat} {xs ys:List α} (h:Seg a b xs ys) (ha:a'<=a) (hb:b<=b'):Seg a' b' xs ys :=
 ⟨h.len,fun i hi=>h.out i (by omega),fun i y h1 h2 h3=>by
  by_cases h4:a<=i/\i < b
  ·obtain ⟨i',h5,h6,h7⟩:=h.into i y h4.1 h4.2 h3;exact ⟨i',by omega,by omega,h7⟩
  ·rw [h.out i (by omega)] at h3;exact ⟨i,h1,h2,h3⟩,h.perm⟩
theorem swap_perm {α:Type} {xs:List α} {i j:Nat} {x y:α} (hi:xs[i]?=some x) (hj:xs[j]?=some y):((xs.set i y).set j x).Perm xs:=by
 obtain ⟨h1,e1⟩:=List.getElem?_eq_some_iff.1 hi;obtain ⟨h2,e2⟩:=List.getElem?_eq_some_iff.1 hj;have:=(Array.swap_perm (xs:=xs.toArray) (i:=i) (j:=j) (by simpa using h1) (by simpa using h2)).toList;simp [Array.swap] at this;rw [e1,e2] at this;exact this
theorem Z1 {α:Type} {xs:List α} {i j:Nat} {x y:α} (hi:xs[i]?=some x) (hj:xs[j]?=some y) (k:Nat):((xs.set i y).set j x)[k]?=if k=j then some x else if k=i then some y else xs[k]?:=by
 obtain ⟨h1,e1⟩:=List.getElem?_eq_some_iff.1 hi;obtain ⟨h2,e2⟩:=List.getElem?_eq_some_iff.1 hj;rw [List.getElem?_set];by_cases h:j=k
 ·subst h;simp [h2]
 ·rw [if_neg h,if_neg (fun e=>h e.symm),List.getElem?_set];by_cases h':i=k
  ·subst h';simp [h1]
  ·rw [if_neg h',if_neg (fun e=>h' e.symm)]
theorem Seg.swap {α:Type} {a b:Nat} {xs:List α} {i j:Nat} {x y:α} (hi:xs[i]?=some x) (hj:xs[j]?=some y) (h1:a<=i) (h2:i < b) (h3:a<=j) (h4:j < b):Seg a b xs ((xs.set i y).set j x):=by
 refine ⟨by simp,fun k hk=>?_,fun k z h5 h6 h7=>?_,swap_perm hi hj⟩
 ·rw [Z1 hi hj,if_neg (by omega),if_neg (by omega)]
 ·rw [Z1 hi hj] at h7;by_cases e:k=j
  ·rw [if_pos e] at h7;cases h7;exact ⟨i,h1,h2,hi⟩
  ·rw [if_neg e] at h7;by_cases e':k=i
   ·rw [if_pos e'] at h7;cases h7;exact ⟨j,h3,h4,hj⟩
   ·rw [if_neg e'] at h7;exact ⟨k,h5,h6,h7⟩
theorem Seg.get {α:Type} {a b:Nat} {xs ys:List α} (h:Seg a b xs ys) {k:Nat} (hk:k < xs.length):∃ y,ys[k]?=some y:=⟨_,List.getElem?_eq_getElem (by rw [h.len];exact hk)⟩
theorem Seg.all {α:Type} {a b:Nat} {xs ys:List α} (h:Seg a b xs ys) {p:α->Prop} (hp:∀ k y,a<=k->k < b->xs[k]?=some y->p y):∀ k y,a<=k->k < b->ys[k]?=some y->p y:=fun k y h1 h2 h3=>by
 obtain ⟨k',h4,h5,h6⟩:=h.into k y h1 h2 h3;exact hp k' y h4 h5 h6
structure STO {α:Type} (lt:α->α->Bool):Prop where
 irr:∀ x,lt x x=false
 tr:∀ x y z,lt x y=true->lt y z=true->lt x z=true
 tot:∀ x y,lt x y=false->lt y x=false->x=y
section
variable {α:Type} {lt:α->α->Bool} (O:STO lt)
include O
theorem STO.asym {x y:α} (h:lt x y=true):lt y x=false:=by
 cases h':lt y x with
 | false=>rfl
 | true=>have:=O.tr x y x h h';rw [O.irr] at this;cases this
theorem STO.le_tr {x y z:α} (h:lt y x=false) (k:lt z y=false):lt z x=false:=by
 cases h':lt z x with
 | false=>rfl
 | true =>
  cases h1:lt x y with
  | true=>rw [O.tr z x y h' h1] at k;cases k
  | false=>have e:=O.tot x y h1 h;subst e;rw [h'] at k;cases k
end
def Heap {α:Type} (lt:α->α->Bool) (xs:List α) (a lo hi:Nat):Prop:=∀ r c x y,lo<=r->(c=2 * r+1\/c=2 * r+2)->c < hi->xs[a+r]?=some x->xs[a+c]?=some y->lt x y=false
structure HeapBut {α:Type} (lt:α->α->Bool) (xs:List α) (a lo hi m:Nat):Prop where
 rest:∀ r c x y,lo<=r->r≠m->(c=2 * r+1\/c=2 * r+2)->c < hi->xs[a+r]?=some x->xs[a+c]?=some y->lt x y=false
 over:∀ r c x y,lo<=r->(m=2 * r+1\/m=2 * r+2)->(c=2 * m+1\/c=2 * m+2)->c < hi->xs[a+r]?=some x->xs[a+c]?=some y->lt x y=false
section
variable {α:Type} {lt:α->α->Bool} {xs:List α} {a lo hi m:Nat}
theorem Heap.but (h:Heap lt xs a (lo+1) hi):HeapBut lt xs a lo hi lo :=
 ⟨fun r c x y h1 h2 h3 h4 h5 h6=>h r c x y (by omega) h3 h4 h5 h6,fun r c x y h1 h2 h3 h4 h5 h6=>by omega⟩
theorem HeapBut.leaf (h:HeapBut lt xs a lo hi m) (hm:hi<=2 * m+1):Heap lt xs a lo hi:=fun r c x y h1 h2 h3 h4 h5=>by
 by_cases e:r=m
 ·omega
 ·exact h.rest r c x y h1 e h2 h3 h4 h5
theorem HeapBut.done (O:STO lt) (h:HeapBut lt xs a lo hi m) {x z:α} (hx:xs[a+m]?=some x) (hxz:lt x z=false) (hk:∀ c y,(c=2 * m+1\/c=2 * m+2)->c < hi->xs[a+c]?=some y->lt z y=false):Heap lt xs a lo hi:=fun r c x' y h1 h2 h3 h4 h5=>by
 by_cases e:r=m
 ·subst e;rw [hx] at h4;cases h4;exact O.le_tr (hk c y h2 h3 h5) hxz
 ·exact h.rest r c x' y h1 e h2 h3 h4 h5
theorem HeapBut.down (O:STO lt) (h:HeapBut lt xs a lo hi m) (hm:lo<=m) {k:Nat} (hkm:k=2 * m+1\/k=2 * m+2) (hkh:k < hi) {x z:α} (hx:xs[a+m]?=some x) (hz:xs[a+k]?=some z) (hxz:lt x z=true) (hk:∀ c y,(c=2 * m+1\/c=2 * m+2)->c < hi->xs[a+c]?=some y->lt z y=false) :
  HeapBut lt ((xs.set (a+m) z).set (a+k) x) a lo hi k:=by
 refine ⟨fun r c u y h1 h2 h3 h4 h5 h6=>?_,fun r c u y h1 h2 h3 h4 h5 h6=>?_⟩
 ·rw [Z1 hx hz] at h5 h6;rw [if_neg (by omega)] at h5;by_cases e:r=m
  ·subst e;rw [if_pos rfl] at h5;cases h5;by_cases e2:c=k
   ·subst e2;rw [if_pos rfl] at h6;cases h6;exact O.asym hxz
   ·rw [if_neg (by omega),if_neg (by omega)] at h6;exact hk c y h3 h4 h6
  ·rw [if_neg (by omega)] at h5;by_cases e2:c=k
   ·omega
   rw [if_neg (by omega)] at h6;by_cases e3:c=m
   ·subst e3;rw [if_pos rfl] at h6;cases h6;exact h.over r k u z h1 h3 hkm hkh h5 hz
   ·rw [if_neg (by omega)] at h6;exact h.rest r c u y h1 e h3 h4 h5 h6
 ·have er:r=m:=by omega
  subst er;rw [Z1 hx hz,if_neg (by omega),if_pos rfl] at h5;cases h5;rw [Z1 hx hz,if_neg (by omega),if_neg (by omega)] at h6;exact h.rest k c z y (by omega) (by omega) h3 h4 hz h6
theorem Heap.max (O:STO lt) (h:Heap lt xs a 0 hi) {x:α} (hx:xs[a]?=some x) (hn:a+hi<=xs.length):∀ k y,k < hi->xs[a+k]?=some y->lt x y=false:=by
 intro k
 induction k using Nat.strongRecOn with
 | _ k ih =>
  intro y hk hy;rcases Nat.eq_zero_or_pos k with e | e
  ·subst e;rw [Nat.add_zero,hx] at hy;cases hy;exact O.irr _
  ·have hp:(k - 1) / 2 < k:=by omega
   have hz:=List.getElem?_eq_getElem (l:=xs) (i:=a+(k - 1) / 2) (by omega);exact O.le_tr (h ((k - 1) / 2) k _ y (Nat.zero_le _) (by omega) hk hz hy) (ih _ hp _ (by omega) hz)
end
def Zc {α:Type} (lt:α->α->Bool) (xs:List α) (a b:Nat):Prop:=∀ i j x y,a<=i->i < j->j < b->xs[i]?=some x->xs[j]?=some y->lt y x=false
def Mid {α:Type} (lt:α->α->Bool) (xs:List α) (a a' b' b:Nat):Prop:=∀ i j x y,a<=i->i < j->j < b->¬(a'<=i/\j < b')->xs[i]?=some x->xs[j]?=some y->lt y x=false
section
variable {α:Type} {lt:α->α->Bool} {xs ys:List α} {a a' b' b:Nat}
theorem Mid.all {a b:Nat}:Mid lt xs a a b b:=fun i j x y h1 h2 h3 h4=>absurd ⟨h1,h3⟩ h4
theorem Mid.seg (h:Mid lt xs a a' b' b) (k:Seg a' b' xs ys) (ha:a<=a') (hb:b'<=b):Mid lt ys a a' b' b:=fun i j x y h1 h2 h3 h4 h5 h6=>by
 have key:∀ i x,a<=i->i < b->ys[i]?=some x->∃ i',a<=i'/\i' < b/\xs[i']?=some x/\(a'<=i/\i < b'->a'<=i'/\i' < b')/\(¬(a'<=i/\i < b')->i'=i):=fun i x h1 h2 h3=>by
  by_cases h7:a'<=i/\i < b'
  ·obtain ⟨i',h8,h9,h10⟩:=k.into i x h7.1 h7.2 h3;exact ⟨i',by omega,by omega,h10,fun _=>⟨h8,h9⟩,fun h=>absurd h7 h⟩
  ·rw [k.out i (by omega)] at h3;exact ⟨i,h1,h2,h3,fun h=>absurd h h7,fun _=>rfl⟩
 obtain ⟨i',p1,p2,p3,p4,p5⟩:=key i x h1 (by omega) h5;obtain ⟨j',q1,q2,q3,q4,q5⟩:=key j y (by omega) h3 h6;refine h i' j' x y p1 ?_ q2 ?_ p3 q3<;>by_cases hi:a'<=i/\i < b'<;>by_cases hj:a'<=j/\j < b'<;>first | (exfalso;omega) | skip
 all_goals first | (have:=p4 hi) | (have:=p5 hi)
 all_goals first | (have:=q4 hj) | (have:=q5 hj)
 all_goals omega
theorem Mid.srt (h:Mid lt xs a a' b' b) (k:Zc lt xs a' b'):Zc lt xs a b:=fun i j x y h1 h2 h3 h4 h5=>by
 by_cases hm:a'<=i/\j < b'
 ·exact k i j x y hm.1 h2 hm.2 h4 h5
 ·exact h i j x y h1 h2 h3 hm h4 h5
structure Part {α:Type} (lt:α->α->Bool) (xs:List α) (a m b:Nat) (v:α):Prop where
 at_:xs[m]?=some v
 lo:∀ k x,a<=k->k < m->xs[k]?=some x->lt x v=true
 hi:∀ k x,m < k->k < b->xs[k]?=some x->lt x v=false
theorem Part.left (O:STO lt) {m:Nat} {v:α} (p:Part lt xs a' m b' v) (h:Mid lt xs a a' b' b) (hs:Zc lt xs a' m):Mid lt xs a (m+1) b' b:=fun i j x y h1 h2 h3 h4 h5 h6=>by
 by_cases hm:a'<=i/\j < b'
 ·rcases Nat.lt_trichotomy j m with e | e | e
  ·exact hs i j x y hm.1 h2 e h5 h6
  ·subst e;rw [p.at_] at h6;cases h6;exact O.asym (p.lo i x hm.1 h2 h5)
  ·rcases Nat.lt_trichotomy i m with e' | e' | e'
   ·exact O.le_tr (O.asym (p.lo i x hm.1 e' h5)) (p.hi j y e hm.2 h6)
   ·subst e';rw [p.at_] at h5;cases h5;exact p.hi j y e hm.2 h6
   ·omega
 ·exact h i j x y h1 h2 h3 hm h5 h6
theorem Part.right (O:STO lt) {m:Nat} {v:α} (p:Part lt xs a' m b' v) (h:Mid lt xs a a' b' b) (hs:Zc lt xs (m+1) b'):Mid lt xs a a' m b:=fun i j x y h1 h2 h3 h4 h5 h6=>by
 by_cases hm:a'<=i/\j < b'
 ·rcases Nat.lt_trichotomy j m with e | e | e
  ·omega
  ·subst e;rw [p.at_] at h6;cases h6;exact O.asym (p.lo i x hm.1 h2 h5)
  ·rcases Nat.lt_trichotomy i m with e' | e' | e'
   ·exact O.le_tr (O.asym (p.lo i x hm.1 e' h5)) (p.hi j y e hm.2 h6)
   ·subst e';rw [p.at_] at h5;cases h5;exact p.hi j y e hm.2 h6
   ·exact hs i j x y (by omega) h2 hm.2 h5 h6
 ·exact h i j x y h1 h2 h3 hm h5 h6
theorem Part.seg {m:Nat} {v:α} (p:Part lt xs a m b v) {c d:Nat} (k:Seg c d xs ys) (h:(a<=c/\d<=m)\/(m < c/\d<=b)):Part lt ys a m b v:=by
 refine ⟨by rw [k.out m (by omega)];exact p.at_,fun i x h1 h2 h3=>?_,fun i x h1 h2 h3=>?_⟩
 ·by_cases hc:c<=i/\i < d
  ·obtain ⟨i',h4,h5,h6⟩:=k.into i x hc.1 hc.2 h3;exact p.lo i' x (by omega) (by omega) h6
  ·rw [k.out i (by omega)] at h3;exact p.lo i x h1 h2 h3
 ·by_cases hc:c<=i/\i < d
  ·obtain ⟨i',h4,h5,h6⟩:=k.into i x hc.1 hc.2 h3;exact p.hi i' x (by omega) (by omega) h6
  ·rw [k.out i (by omega)] at h3;exact p.hi i x h1 h2 h3
end
end Go.Gw

end
section
set_option maxRecDepth 4096
set_option linter.unusedVariables false
namespace Go.Gw
open Go
attribute [local irreducible] loop
def XF (x y:Nd):Bool:=decide (x.e0 < y.e0\/(x.e0=y.e0/\x.e1 < y.e1))
theorem ltP_sto:STO XF where
 irr x:=by simp [XF]
 tr x y z h k:=by simp [XF] at *;omega
 tot x y h k:=by
  obtain ⟨a,b⟩:=x;obtain ⟨c,d⟩:=y;simp [XF] at *;omega
def Qkl (x y:Nd):Int:=if x.e0 < y.e0 then -1 else if y.e0 < x.e0 then 1 else if x.e1 < y.e1 then -1 else if y.e1 < x.e1 then 1 else 0
theorem Qbw (x y:Nd):decide (Qkl x y < 0)=XF x y:=by
 unfold Qkl XF;by_cases h1:x.e0 < y.e0
 ·simp [h1]
 by_cases h2:y.e0 < x.e0
 ·have:¬ x.e0=y.e0:=by omega
  simp [h1,h2,this]
 have:x.e0=y.e0:=by omega
 by_cases h3:x.e1 < y.e1
 ·simp [this,h3]
 by_cases h4:y.e1 < x.e1
 ·simp [this,h3,h4]
 ·simp [this,h3,h4]
def JQ (a b:Int):Int:=if a < b then -1 else if b < a then 1 else 0
theorem QFj (a b:Int):Qfl a b=some (JQ a b):=by
 have h:∀ x,Qhl x=some false:=fun x=>by unfold Qhl;simp
 unfold Qfl JQ;rw [h,h];by_cases h1:a < b
 ·simp [h1]
 by_cases h2:b < a
 ·simp [h1,h2]
 ·simp [h1,h2]
theorem Qbx (x y:Nd):Zn x y=some (Qkl x y):=by
 have key:loop (Qjf [x.e0,x.e1] [y.e0,y.e1]) 0=some (bif !decide (JQ x.e0 y.e0=0) then .inl (JQ x.e0 y.e0) else bif !decide (JQ x.e1 y.e1=0) then .inl (JQ x.e1 y.e1) else .inr ()):=by
  refine loop_iff.2 ⟨3,?_⟩;have s0:Qjf [x.e0,x.e1] [y.e0,y.e1] 0=Option.bind (Qfl x.e0 y.e0) fun r=>bif !decide (r=0) then some (.inr (.inl r)) else some (.inl 1):=rfl
  have s1:Qjf [x.e0,x.e1] [y.e0,y.e1] 1=Option.bind (Qfl x.e1 y.e1) fun r=>bif !decide (r=0) then some (.inr (.inl r)) else some (.inl 2):=rfl
  have s2:Qjf [x.e0,x.e1] [y.e0,y.e1] 2=some (.inr (.inr ())):=rfl;rw [QFj,Qv] at s0 s1;generalize JQ x.e0 y.e0=c0 at *
  generalize JQ x.e1 y.e1=c1 at *
  by_cases h0:c0=0
  ·by_cases h1:c1=0
   ·simp [YM, *]
   ·simp [YM, *]
  ·simp [YM, *]
 unfold Zn Qtg;rw [key];unfold Qkl;by_cases h1:x.e0 < y.e0
 ·simp [JQ,h1,Xx]
 by_cases h2:y.e0 < x.e0
 ·simp [JQ,h1,h2,Xx]
 by_cases h3:x.e1 < y.e1
 ·simp [JQ,h1,h2,h3,Xx]
 by_cases h4:y.e1 < x.e1
 ·simp [JQ,h1,h2,h3,h4,Xx]
 ·simp [JQ,h1,h2,h3,h4,Xx]
theorem Qbl {α β:Type} {xs:List α} {I J:Int} {i j:Nat} {x y:α} {f:α->α->Option β} {Q:β->Prop} (hI:I=i) (hJ:J=j) (hi:xs[i]?=some x) (hj:xs[j]?=some y) (h:Runs (f y x) Q) :
  Runs (Option.bind (idx xs J) fun e1=>Option.bind (idx xs I) fun e2=>Option.bind (idx xs I) fun _=>Option.bind (idx (xs.set I.toNat e1) J) fun _=>f e1 e2) Q:=by
 subst hI hJ;refine Runs.call (Xu?.trans hj) (Runs.call (Xu?.trans hi) (Runs.call (Xu?.trans hi) ?_));have hl:=(List.getElem?_eq_some_iff.1 hj).1;exact Runs.call (Xu?.trans (List.getElem?_eq_getElem (by simpa using hl))) h
theorem ltn {a b:Nat} (h:a < b):decide ((a:Int) < (b:Int))=true:=by simp;omega
theorem Qil {a b:Nat} (h:¬ a < b):decide ((a:Int) < (b:Int))=false:=by simp;omega
theorem QJi {xs:List Nd} {a i:Nat} (hai:a<=i) (hi:i < xs.length) (hn:xs.length < 1073741824) (hs:Zc XF xs a i) :
  Runs (loop (Qts (a:Int)) (xs,(i:Int))) (fun ys=>Seg a (i+1) xs ys/\Zc XF ys a (i+1)):=by
 refine Runs.loop (fun s=>∃ (ys:List Nd) (j:Nat),s=(ys,(j:Int))/\a<=j/\j<=i/\Seg a (i+1) xs ys/\(∀ k l x y,a<=k->k < l->l<=i->k≠j->l≠j->ys[k]?=some x->ys[l]?=some y->XF y x=false)/\(∀ k x y,j < k->k<=i->ys[j]?=some x->ys[k]?=some y->XF y x=false))
  (fun s=>s.2.toNat) ⟨xs,i,rfl,hai,Nat.le_refl _,.refl,fun k l x y h1 h2 h3 h4 h5=>hs k l x y h1 h2 (by omega),fun k x y h1 h2=>by omega⟩ ?_
 rintro _ ⟨ys,j,rfl,h1,h2,hg,hp,hq⟩;have hl:=hg.len;unfold Qts;by_cases ha:a < j
 ·have e1:w64 ((j:Int) - 1)=((j - 1:Nat):Int):=by rw [Xw (by omega)];omega
  simp only [ltn ha,cond_true,Bool.true_and,e1];obtain ⟨x,hx⟩:=hg.get (k:=j) (by omega);obtain ⟨y,hy⟩:=hg.get (k:=j - 1) (by omega);refine Runs.call (Xu?.trans hx) (Runs.call (Xu?.trans hy) (Runs.call (Qbx _ _) ?_));rw [Qbw];refine Runs.bif (fun hc=>Qbl rfl rfl hx hy (Runs.some ⟨⟨_,j - 1,rfl,by omega,by omega,hg.trans (Seg.swap hx hy (by omega) (by omega) (by omega) (by omega)),?_,?_⟩,?_⟩)) (fun hc=>Runs.some ⟨hg,?_⟩)
  ·intro k l u v h3 h4 h5 h6 h7 h8 h9;rw [Int.toNat_natCast,Int.toNat_natCast,Z1 hx hy] at h8 h9;rw [if_neg h6] at h8;rw [if_neg h7] at h9;by_cases e:k=j
   ·rw [if_pos e] at h8;cases h8;rw [if_neg (by omega)] at h9;exact hp (j - 1) l y v (by omega) (by omega) h5 (by omega) (by omega) hy h9
   ·rw [if_neg e] at h8;by_cases e':l=j
    ·rw [if_pos e'] at h9;cases h9;exact hp k (j - 1) u y h3 (by omega) (by omega) e (by omega) h8 hy
    ·rw [if_neg e'] at h9;exact hp k l u v h3 h4 h5 e e' h8 h9
  ·intro k u v h3 h4 h5 h6;rw [Int.toNat_natCast,Int.toNat_natCast,Z1 hx hy] at h5 h6;rw [if_pos rfl] at h5;cases h5;rw [if_neg (by omega)] at h6;by_cases e:k=j
   ·rw [if_pos e] at h6;cases h6;exact ltP_sto.asym hc
   ·rw [if_neg e] at h6;exact hq k x v (by omega) h4 hx h6
  ·show (((j - 1:Nat):Int)).toNat < ((j:Nat):Int).toNat;simp;omega
  ·intro k l u v h3 h4 h5 h6 h7;by_cases e:k=j
   ·subst e;exact hq l u v h4 (by omega) h6 h7
   ·by_cases e':l=j
    ·subst e';rw [hx] at h7;cases h7;by_cases e2:k=l - 1
     ·subst e2;rw [hy] at h6;cases h6;exact hc
     ·exact ltP_sto.le_tr (hp k (l - 1) u y h3 (by omega) (by omega) e (by omega) h6 hy) hc
    ·exact hp k l u v h3 h4 (by omega) e e' h6 h7
 ·simp only [Qil ha,cond_false,Bool.false_and];have e:j=a:=by omega
  subst e;refine Runs.call rfl (Runs.call rfl (Runs.call rfl (Runs.some ⟨hg,?_⟩)));intro k l u v h3 h4 h5 h6 h7;by_cases e:k=j
  ·subst e;exact hq l u v h4 (by omega) h6 h7
  ·exact hp k l u v h3 h4 (by omega) e (by omega) h6 h7
theorem Qxd {xs:List Nd} {a b:Nat} (hab:a<=b) (hb:b<=xs.length) (hn:xs.length < 1073741824) :
  Runs (Qnv xs a b) (fun ys=>Seg a b xs ys/\Zc XF ys a b):=by
 unfold Qnv;refine Runs.bind ?_;rw [show w64 ((a:Int)+1)=((a+1:Nat):Int) by rw [Xw (by omega)];omega];refine Runs.mono (Q:=fun ys=>Seg a b xs ys/\Zc XF ys a b) (Runs.loop (fun s=>∃ (ys:List Nd) (i:Nat),s=(ys,(i:Int))/\a < i/\(i<=b\/i=a+1)/\Seg a b xs ys/\Zc XF ys a i) (fun s=>b - s.2.toNat) ⟨xs,a+1,rfl,by omega,.inr rfl,.refl,fun k l x y h1 h2 h3=>by omega⟩ ?_) (fun ys h=>Runs.some h);rintro _ ⟨ys,i,rfl,h1,h2,hg,hs⟩;have hl:=hg.len;unfold QBk;by_cases hi:i < b
 ·refine Runs.bif_t (ltn hi) (Runs.callR (QJi (by omega) (by omega) (by omega) hs) fun zs ⟨h3,h4⟩=>?_);rw [XI i (by omega)];exact Runs.some ⟨⟨zs,i+1,rfl,by omega,by omega,hg.trans (h3.mono (Nat.le_refl _) (by omega)),h4⟩,by show b - ((i+1:Nat):Int).toNat < b - ((i:Nat):Int).toNat;simp;omega⟩
 ·refine Runs.bif_f (Qil hi) (Runs.some ⟨hg,fun k l x y h3 h4 h5=>hs k l x y h3 h4 (by omega)⟩)
theorem QBe {xs:List Nd} {a lo hi:Nat} (hl:a+hi<=xs.length) (hn:xs.length < 1073741824) (hlo:lo < 1073741824) (h:Heap XF xs a (lo+1) hi) :
    Runs (Qjl xs lo hi a) (fun ys=>Seg a (a+hi) xs ys/\Heap XF ys a lo hi):=by
  unfold Qjl;refine Runs.bind ?_;refine Runs.mono (Q:=fun o=>∃ ys,(o=.inl ys\/o=.inr ys)/\Seg a (a+hi) xs ys/\Heap XF ys a lo hi) (Runs.loop (fun s=>∃ (ys:List Nd) (m:Nat),s=(ys,(m:Int))/\lo<=m/\(m < hi\/m=lo)/\Seg a (a+hi) xs ys/\HeapBut XF ys a lo hi m) (fun s=>hi - s.2.toNat) ⟨xs,lo,rfl,Nat.le_refl _,.inr rfl,.refl,h.but⟩ ?_) (fun o ⟨ys,ho,hq⟩=>by rcases ho with rfl | rfl<;>exact Runs.some hq);rintro _ ⟨ys,m,rfl,h1,h2,hg,hb⟩;have hl':=hg.len;unfold QBq;have hm8:m < 1073741824:=by omega
  have e1:w64 (w64 (2 * (m:Int))+1)=((2 * m+1:Nat):Int):=by rw [Xw (x:=2 * (m:Int)) (by omega),Xw (by omega)];omega
  have e2:w64 (((2 * m+1:Nat):Int)+1)=((2 * m+2:Nat):Int):=by rw [Xw (by omega)];omega
  have eA:∀ k:Nat,k < 2147483649->w64 ((a:Int)+(k:Int))=((a+k:Nat):Int):=fun k hk=>by rw [Xw (by omega)];omega
  have eB:w64 (((a+(2 * m+1):Nat):Int)+1)=((a+(2 * m+2):Nat):Int):=by rw [Xw (by omega)];omega
  simp only [e1,e2];refine Runs.bif (fun hc=>Runs.some ⟨ys,.inr rfl,hg,hb.leaf (by simp at hc;omega)⟩) (fun hc=>?_);have hc:2 * m+1 < hi:=by simp at hc;omega
  rw [eA (2 * m+1) (by omega),eA m (by omega),eB];obtain ⟨x,hx⟩:=hg.get (k:=a+m) (by omega);obtain ⟨u,hu⟩:=hg.get (k:=a+(2 * m+1)) (by omega)
  -- the greater child
  have key : ∃ (k : Nat) (z : Nd), (k = 2 * m + 1 \/ k = 2 * m + 2) /\ k < hi /\ ys[a + k]? = some z /\ (∀ c y, (c = 2 * m + 1 \/ c = 2 * m + 2) -> c < hi -> ys[a + c]? = some y -> XF z y = false) /\
      ∀ {β:Type} (f:Int->Option β),(Option.bind ((bif (decide (((2 * m+2:Nat):Int) < (hi:Int))) then idx ys ((a+(2 * m+1):Nat):Int) else some default)) fun el857=>(Option.bind ((bif (decide (((2 * m+2:Nat):Int) < (hi:Int))) then idx ys ((a+(2 * m+2):Nat):Int) else some default)) fun el862=>(Option.bind (bif (decide (((2 * m+2:Nat):Int) < (hi:Int))) then Zn el857 el862 else some default) fun r867=>(Option.bind (bif ((decide (((2 * m+2:Nat):Int) < (hi:Int)))&&(decide (r867 < 0))) then some ((2 * m+2:Nat):Int) else some ((2 * m+1:Nat):Int)) f))))=f (k:Int):=by
    by_cases h3:2 * m+2 < hi
    · obtain ⟨v,hv⟩:=hg.get (k:=a+(2 * m+2)) (by omega);cases hlt:XF u v with
      | true =>
        refine ⟨2 * m+2,v,.inr rfl,h3,hv,fun c y hc2 h4 h5=>?_,fun f=>?_⟩
        · rcases hc2 with rfl | rfl
          · rw [hu] at h5;cases h5;exact ltP_sto.asym hlt
          · rw [hv] at h5;cases h5;exact ltP_sto.irr _
        · simp only [ltn h3,cond_true,Bool.true_and,Xu?,hu,hv,Qv,Qbx,Qbw,hlt]
      | false =>
        refine ⟨2 * m+1,u,.inl rfl,by omega,hu,fun c y hc2 h4 h5=>?_,fun f=>?_⟩
        · rcases hc2 with rfl | rfl
          · rw [hu] at h5;cases h5;exact ltP_sto.irr _
          · rw [hv] at h5;cases h5;exact hlt
        · simp only [ltn h3,cond_true,Bool.true_and,Xu?,hu,hv,Qv,Qbx,Qbw,hlt,cond_false]
    · refine ⟨2 * m+1,u,.inl rfl,by omega,hu,fun c y hc2 h4 h5=>?_,fun f=>?_⟩
      · rcases hc2 with rfl | rfl
        · rw [hu] at h5;cases h5;exact ltP_sto.irr _
        · omega
      · simp only [Qil h3,cond_false,Bool.false_and,Qv]
  obtain ⟨k,z,hk,hkh,hz,hmax,hf⟩:=key;rw [hf];rw [eA k (by omega)];refine Runs.call (Xu?.trans hx) (Runs.call (Xu?.trans hz) (Runs.call (Qbx _ _) ?_));rw [Qbw];refine Runs.bif (fun hc=>Runs.some ⟨ys,.inl rfl,hg,hb.done ltP_sto hx (by simpa using hc) hmax⟩) (fun hc=>Qbl rfl rfl hx hz (Runs.some ⟨⟨_,k,rfl,by omega,.inl hkh,hg.trans (Seg.swap hx hz (by omega) (by omega) (by omega) (by omega)),hb.down ltP_sto h1 hk hkh hx hz (by simpa using hc) hmax⟩,?_⟩));show hi - ((k:Nat):Int).toNat < hi - ((m:Nat):Int).toNat;simp;omega
theorem QJc {xs:List Nd} {a b:Nat} (hab:a < b) (hb:b<=xs.length) (hn:xs.length < 1073741824) :
    Runs (Qnu xs a b) (fun ys=>Seg a b xs ys/\Zc XF ys a b):=by
  unfold Qnu;have e0:w64 ((b:Int) - (a:Int))=((b - a:Nat):Int):=by rw [Xw (by omega)];omega
  have e1:w64 (((b - a:Nat):Int) - 1)=((b - a - 1:Nat):Int):=by rw [Xw (by omega)];omega
  have e2:w64 (Int.tdiv ((b - a - 1:Nat):Int) 2)=(((b - a - 1) / 2:Nat):Int):=by rw [Int.tdiv_eq_ediv_of_nonneg (by omega),Xw (by omega)];omega
  rw [e0,e1,e2];refine Runs.callR (R:=fun ys=>Seg a b xs ys/\Heap XF ys a 0 (b - a)) ?_ (fun ys ⟨hg,hh⟩=>?_)
  · refine Runs.loop (fun s=>∃ (ys:List Nd) (i:Nat),s=(ys,(i:Int) - 1)/\i < b - a+1/\Seg a b xs ys/\Heap XF ys a i (b - a)) (fun s=>(s.2+1).toNat) ⟨xs,(b - a - 1) / 2+1,by simp,by omega,.refl,fun r c x y h1 h2 h3=>by omega⟩ ?_;rintro _ ⟨ys,i,rfl,h1,hg,hh⟩;unfold QBi;rcases Nat.eq_zero_or_pos i with hi | hi
    · subst hi;refine Runs.bif_f (by simp) (Runs.some ⟨hg,hh⟩)
    · refine Runs.bif_t (by simp;omega) ?_;rw [show ((i:Int) - 1)=((i - 1:Nat):Int) by omega,e0];refine Runs.callR (QBe (a:=a) (lo:=i - 1) (hi:=b - a) (by rw [hg.len];omega) (by rw [hg.len];omega) (by omega) (by rw [show i - 1+1=i by omega];exact hh)) (fun zs ⟨hg2,hh2⟩=>Runs.some ⟨⟨zs,i - 1,?_,by omega,hg.trans (hg2.mono (Nat.le_refl _) (by omega)),hh2⟩,?_⟩)
      · rw [Xw (by omega)]
      · show (w64 (((i - 1:Nat):Int) - 1)+1).toNat < (((i - 1:Nat):Int)+1).toNat;rw [Xw (by omega)];omega
  · refine Runs.bind ?_;refine Runs.mono (Q:=fun ys=>Seg a b xs ys/\Zc XF ys a b) (Runs.loop (fun s=>∃ (ys:List Nd) (i:Nat),s=(ys,(i:Int) - 1)/\i<=b - a/\Seg a b xs ys/\Heap XF ys a 0 i/\Mid XF ys a a (a+i) b) (fun s=>(s.2+1).toNat) ⟨ys,b - a,by rw [show ((b - a - 1:Nat):Int)=((b - a:Nat):Int) - 1 by omega],Nat.le_refl _,hg,hh,by rw [show a+(b - a)=b by omega];exact Mid.all⟩ ?_) (fun ys h=>Runs.some h);rintro _ ⟨ys,i,rfl,h1,hg,hh,hm⟩;have hl:=hg.len;unfold QBj;rcases Nat.eq_zero_or_pos i with hi | hi
    · subst hi;refine Runs.bif_f (by simp) (Runs.some ⟨hg,hm.srt (fun i j x y h1 h2 h3=>by omega)⟩)
    · refine Runs.bif_t (by simp;omega) ?_;rw [show ((i:Int) - 1)=((i - 1:Nat):Int) by omega,show w64 ((a:Int)+((i - 1:Nat):Int))=((a+(i - 1):Nat):Int) by rw [Xw (by omega)];omega];obtain ⟨x,hx⟩:=hg.get (k:=a) (by omega);obtain ⟨y,hy⟩:=hg.get (k:=a+(i - 1)) (by omega);have hmx:=hh.max ltP_sto hx (by omega);refine Qbl rfl rfl hx hy ?_;rw [Int.toNat_natCast,Int.toNat_natCast];have hsw:Seg a (a+i) ys ((ys.set a y).set (a+(i - 1)) x):=Seg.swap hx hy (by omega) (by omega) (by omega) (by omega);have hhp:Heap XF ((ys.set a y).set (a+(i - 1)) x) a (0+1) (i - 1):=fun r c u v h2 h3 h4 h5 h6=>by
        rw [Z1 hx hy,if_neg (by omega),if_neg (by omega)] at h5 h6;exact hh r c u v (Nat.zero_le _) h3 (by omega) h5 h6
      refine Runs.callR (QBe (a:=a) (lo:=0) (hi:=i - 1) (by simp;omega) (by simp;omega) (by omega) hhp) (fun zs ⟨hg2,hh2⟩=>Runs.some ⟨⟨zs,i - 1,?_,by omega,(hg.trans (hsw.mono (Nat.le_refl _) (by omega))).trans (hg2.mono (Nat.le_refl _) (by omega)),hh2,?_⟩,?_⟩)
      · rw [Xw (by omega)]
      · have hm2 : Mid XF ((ys.set a y).set (a + (i - 1)) x) a a (a + (i - 1)) b := fun k l u v h2 h3 h4 h5 h6 h7 => by
          have hm3:=hm.seg hsw (Nat.le_refl _) (by omega);by_cases hlt:l < a+i
          · have:l=a+(i - 1):=by omega
            subst this;rw [Z1 hx hy,if_pos rfl] at h7;cases h7;rw [Z1 hx hy,if_neg (by omega)] at h6;by_cases e:k=a
            · rw [if_pos e] at h6;cases h6;exact hmx (i - 1) _ (by omega) hy
            · rw [if_neg e] at h6;exact hmx (k - a) u (by omega) (by rw [show a+(k - a)=k by omega];exact h6)
          · exact hm3 k l u v h2 h3 h4 (by omega) h6 h7
        exact hm2.seg hg2 (Nat.le_refl _) (by omega)
      · show (w64 (((i - 1:Nat):Int) - 1)+1).toNat < (((i - 1:Nat):Int)+1).toNat;rw [Xw (by omega)];omega
theorem QCt {ys:List Nd} {a i j:Nat} {v:Nd} (hv:ys[a]?=some v) (hi:i<=j+1) (hj:j < ys.length) (hn:ys.length < 1073741824) :
  Runs (loop (Qjj (a:Int) ys (j:Int)) (i:Int)) (fun r=>∃ i':Nat,r=(i':Int)/\i<=i'/\i'<=j+1/\(∀ k x,i<=k->k < i'->ys[k]?=some x->XF x v=true)/\(i'<=j->∀ x,ys[i']?=some x->XF x v=false)):=by
 refine Runs.loop (fun s=>∃ k:Nat,s=(k:Int)/\i<=k/\k<=j+1/\∀ l x,i<=l->l < k->ys[l]?=some x->XF x v=true) (fun s=>j+1 - s.toNat) ⟨i,rfl,Nat.le_refl _,hi,fun l x h1 h2=>by omega⟩ ?_;rintro _ ⟨k,rfl,h1,h2,h3⟩;unfold Qjj;by_cases hk:k<=j
 ·have hx:=List.getElem?_eq_getElem (l:=ys) (i:=k) (by omega);simp only [show decide ((k:Int)<=(j:Int))=true by simp;omega,cond_true,Bool.true_and];refine Runs.call (Xu?.trans hx) (Runs.call (Xu?.trans hv) (Runs.call (Qbx _ _) ?_));rw [Qbw,XI k (by omega)];refine Runs.bif (fun hc=>Runs.some ⟨⟨k+1,rfl,by omega,by omega,fun l x h4 h5 h6=>?_⟩,by show j+1 - ((k+1:Nat):Int).toNat < j+1 - ((k:Nat):Int).toNat;simp;omega⟩) (fun hc=>Runs.some ⟨k,rfl,h1,h2,h3,fun _ x hx'=>by rw [hx] at hx';cases hx';exact hc⟩);rcases Nat.lt_or_ge l k with e | e
  ·exact h3 l x h4 e h6
  ·have:l=k:=by omega
   subst this;rw [hx] at h6;cases h6;exact hc
 ·simp only [show decide ((k:Int)<=(j:Int))=false by simp;omega,cond_false,Bool.false_and];exact Runs.call rfl (Runs.call rfl (Runs.call rfl (Runs.some ⟨k,rfl,h1,h2,h3,fun h=>absurd h hk⟩)))
theorem Qwj {ys:List Nd} {a i j:Nat} {v:Nd} (hv:ys[a]?=some v) (hi0:1<=i) (hi:i<=j+1) (hj:j < ys.length) (hn:ys.length < 1073741824) :
  Runs (loop (Qjk (a:Int) ys (i:Int)) (j:Int)) (fun r=>∃ j':Nat,r=(j':Int)/\j'<=j/\i<=j'+1/\(∀ k x,j' < k->k<=j->ys[k]?=some x->XF x v=false)/\(i<=j'->∀ x,ys[j']?=some x->XF x v=true)):=by
 refine Runs.loop (fun s=>∃ k:Nat,s=(k:Int)/\k<=j/\i<=k+1/\∀ l x,k < l->l<=j->ys[l]?=some x->XF x v=false) (fun s=>s.toNat) ⟨j,rfl,Nat.le_refl _,hi,fun l x h1 h2=>by omega⟩ ?_;rintro _ ⟨k,rfl,h1,h2,h3⟩;unfold Qjk;by_cases hk:i<=k
 ·have hx:=List.getElem?_eq_getElem (l:=ys) (i:=k) (by omega);simp only [show decide ((i:Int)<=(k:Int))=true by simp;omega,cond_true,Bool.true_and];refine Runs.call (Xu?.trans hx) (Runs.call (Xu?.trans hv) (Runs.call (Qbx _ _) ?_));rw [Qbw,show w64 ((k:Int) - 1)=((k - 1:Nat):Int) by rw [Xw (by omega)];omega];refine Runs.bif (fun hc=>Runs.some ⟨⟨k - 1,rfl,by omega,by omega,fun l x h4 h5 h6=>?_⟩,by show ((k - 1:Nat):Int).toNat < ((k:Nat):Int).toNat;simp;omega⟩) (fun hc=>Runs.some ⟨k,rfl,h1,h2,h3,fun _ x hx'=>by rw [hx] at hx';cases hx';simpa using hc⟩);rcases Nat.lt_or_ge k l with e | e
  ·exact h3 l x e h5 h6
  ·have:l=k:=by omega
   subst this;rw [hx] at h6;cases h6;simpa using hc
 ·simp only [show decide ((i:Int)<=(k:Int))=false by simp;omega,cond_false,Bool.false_and];exact Runs.call rfl (Runs.call rfl (Runs.call rfl (Runs.some ⟨k,rfl,h1,h2,h3,fun h=>absurd h hk⟩)))
structure Parting (xs ys:List Nd) (a b:Nat) (v:Nd) (i j:Nat):Prop where
 g:Seg a b xs ys
 pv:ys[a]?=some v
 ai:a < i
 jb:j < b
 ij:i<=j+1
 lo:∀ k x,a < k->k < i->ys[k]?=some x->XF x v=true
 hi:∀ k x,j < k->k < b->ys[k]?=some x->XF x v=false
theorem Parting.swap {xs ys:List Nd} {a b i j:Nat} {v x y:Nd} (h:Parting xs ys a b v i j) (hij:i<=j) (hx:ys[i]?=some x) (hy:ys[j]?=some y) (h1:XF x v=false) (h2:XF y v=true):Parting xs ((ys.set i y).set j x) a b v (i+1) (j - 1):=by
 have hne:i≠j:=fun e=>by subst e;rw [hx] at hy;cases hy;rw [h1] at h2;cases h2
 obtain ⟨g,hv,ai,jb,ij,lo,hi⟩:=h;refine ⟨g.trans (Seg.swap hx hy (by omega) (by omega) (by omega) (by omega)),by rw [Z1 hx hy,if_neg (by omega),if_neg (by omega)];exact hv,by omega,by omega,by omega,fun k z h3 h4 h5=>?_,fun k z h3 h4 h5=>?_⟩
 ·rw [Z1 hx hy,if_neg (by omega)] at h5;by_cases e:k=i
  ·rw [if_pos e] at h5;cases h5;exact h2
  ·rw [if_neg e] at h5;exact lo k z h3 (by omega) h5
 ·rw [Z1 hx hy] at h5;by_cases e:k=j
  ·rw [if_pos e] at h5;cases h5;exact h1
  ·rw [if_neg e,if_neg (by omega)] at h5;exact hi k z (by omega) h4 h5
theorem Parting.fin {xs ys:List Nd} {a b i j:Nat} {v y:Nd} (h:Parting xs ys a b v i j) (hij:j < i) (hy:ys[j]?=some y):Seg a b xs ((ys.set j v).set a y)/\Part XF ((ys.set j v).set a y) a j b v/\a<=j/\j < b:=by
 obtain ⟨g,hv,ai,jb,ij,lo,hi⟩:=h;refine ⟨g.trans (Seg.swap hy hv (by omega) (by omega) (by omega) (by omega)),⟨?_,fun k x h1 h2 h3=>?_,fun k x h1 h2 h3=>?_⟩,by omega,jb⟩
 ·rw [Z1 hy hv];by_cases e:j=a
  ·rw [if_pos e];subst e;rw [hv] at hy;exact hy.symm
  ·rw [if_neg e,if_pos rfl]
 ·rw [Z1 hy hv] at h3;by_cases e:k=a
  ·rw [if_pos e] at h3;cases h3;exact lo j _ (by omega) (by omega) hy
  ·rw [if_neg e,if_neg (by omega)] at h3;exact lo k x (by omega) (by omega) h3
 ·rw [Z1 hy hv,if_neg (by omega),if_neg (by omega)] at h3;exact hi k x h1 h2 h3
theorem QPy {xs:List Nd} {a b p:Nat} (hap:a<=p) (hpb:p < b) (hb:b<=xs.length) (hn:xs.length < 1073741824) :
    Runs (Qnx xs a b p) (fun r=>Seg a b xs r.2/\∃ (m:Nat) (v:Nd),r.1.1=m/\a<=m/\m < b/\Part XF r.2 a m b v):=by
  unfold Qnx;have hx:=List.getElem?_eq_getElem (l:=xs) (i:=a) (by omega);have hv:=List.getElem?_eq_getElem (l:=xs) (i:=p) (by omega);generalize xs[a]=x at hx;generalize xs[p]=v at hv;refine Qbl rfl rfl hx hv ?_;rw [Int.toNat_natCast,Int.toNat_natCast];have s0:∀ i:Int,Qtt v x xs p b a i=Qjj a ((xs.set a v).set p x) (w64 ((b:Int) - 1)) i:=fun _=>rfl
  have s1:∀ i j:Int,Qtu v x xs p a i j=Qjk a ((xs.set a v).set p x) i j:=fun _ _=>rfl
  rw [show Qtt v x xs p b a=Qjj a ((xs.set a v).set p x) (w64 ((b:Int) - 1)) from funext s0];have s1':∀ i:Int,Qtu v x xs p a i=Qjk a ((xs.set a v).set p x) i:=fun i=>funext (s1 i)
  simp only [s1'];have hg:Seg a b xs ((xs.set a v).set p x):=Seg.swap hx hv (by omega) (by omega) hap hpb;have hva:((xs.set a v).set p x)[a]?=some v:=by
    rw [Z1 hx hv];by_cases e:a=p
    · rw [if_pos e];subst e;rw [hx] at hv;exact hv
    · rw [if_neg e,if_pos rfl]
  generalize ((xs.set a v).set p x)=ys at hg hva;have hl:=hg.len;have e1:w64 ((a:Int)+1)=((a+1:Nat):Int):=XI a (by omega);have e2:w64 ((b:Int) - 1)=((b - 1:Nat):Int):=by rw [Xw (by omega)];omega
  rw [e1,e2];refine Runs.callR (QCt hva (by omega) (by omega) (by omega)) ?_;rintro _ ⟨i,rfl,i1,i2,i3,i4⟩;refine Runs.callR (Qwj hva (by omega) i2 (by omega) (by omega)) ?_;rintro _ ⟨j,rfl,j1,j2,j3,j4⟩;have hP:Parting xs ys a b v i j:=⟨hg,hva,by omega,by omega,j2,fun k z h1 h2=>i3 k z (by omega) h2,fun k z h1 h2=>j3 k z h1 (by omega)⟩;have hy:=List.getElem?_eq_getElem (l:=ys) (i:=j) (by omega);refine Runs.bif (fun hc=>Qbl rfl rfl hy hva ?_) (fun hc=>?_)
  · obtain ⟨h1,h2,h3,h4⟩:=hP.fin (by simpa using hc) hy;exact Runs.some ⟨h1,j,v,rfl,h3,h4,h2⟩
  · have hij:i<=j:=by simp at hc;omega
    have hx:=List.getElem?_eq_getElem (l:=ys) (i:=i) (by omega);refine Qbl rfl rfl hx hy ?_;rw [Int.toNat_natCast,Int.toNat_natCast,XI i (by omega),show w64 ((j:Int) - 1)=((j - 1:Nat):Int) by rw [Xw (by omega)];omega];have hP2:=hP.swap hij hx hy (i4 (by omega) _ hx) (j4 hij _ hy);refine Runs.callR (R:=fun r=>∃ (zs:List Nd) (i j:Nat),r=(zs,(j:Int))/\j < i/\Parting xs zs a b v i j) (Runs.loop (fun s=>∃ (zs:List Nd) (i j:Nat),s=(zs,(i:Int),(j:Int))/\Parting xs zs a b v i j) (fun s=>b+1 - s.2.1.toNat) ⟨_,i+1,j - 1,rfl,hP2⟩ ?_) ?_
    · rintro _ ⟨zs,i,j,rfl,hP⟩;have hl:=hP.g.len;have:=hP.ai;have:=hP.jb;have:=hP.ij;unfold QBn;refine Runs.callR (QCt hP.pv hP.ij (by omega) (by omega)) ?_;rintro _ ⟨i',rfl,i1,i2,i3,i4⟩;refine Runs.callR (Qwj hP.pv (by omega) i2 (by omega) (by omega)) ?_;rintro _ ⟨j',rfl,j1,j2,j3,j4⟩;have hP':Parting xs zs a b v i' j':=⟨hP.g,hP.pv,by omega,by omega,j2,fun k z h1 h2 h3=>by
        rcases Nat.lt_or_ge k i with e | e
        · exact hP.lo k z h1 e h3
        · exact i3 k z e h2 h3,fun k z h1 h2 h3=>by
        rcases Nat.lt_or_ge j k with e | e
        · exact hP.hi k z e h2 h3
        · exact j3 k z h1 e h3⟩
      refine Runs.bif (fun hc=>Runs.some ⟨zs,i',j',rfl,by simpa using hc,hP'⟩) (fun hc=>?_);have hij:i'<=j':=by simp at hc;omega
      have hx:=List.getElem?_eq_getElem (l:=zs) (i:=i') (by omega);have hy:=List.getElem?_eq_getElem (l:=zs) (i:=j') (by omega);refine Qbl rfl rfl hx hy (Runs.some ⟨⟨_,i'+1,j' - 1,?_,hP'.swap hij hx hy (i4 (by omega) _ hx) (j4 hij _ hy)⟩,?_⟩)
      · rw [Int.toNat_natCast,Int.toNat_natCast,XI i' (by omega),show w64 ((j':Int) - 1)=((j' - 1:Nat):Int) by rw [Xw (by omega)];omega]
      · show b+1 - (w64 ((i':Int)+1)).toNat < b+1 - ((i:Nat):Int).toNat;rw [XI i' (by omega)];simp;omega
    · rintro _ ⟨zs,i,j,rfl,hij,hP⟩;have hl:=hP.g.len;have:=hP.jb;have hy:=List.getElem?_eq_getElem (l:=zs) (i:=j) (by omega);refine Qbl rfl rfl hy hP.pv ?_;obtain ⟨h1,h2,h3,h4⟩:=hP.fin hij hy;exact Runs.some ⟨h1,j,v,rfl,h3,h4,h2⟩
theorem QRc {xs:List Nd} {a b:Nat} (hab:a < b) (hb:b<=xs.length) (hn:xs.length < 1073741824):Runs (Qny xs a b) (Seg a b xs):=by
 unfold Qny;rw [show w64 ((b:Int) - 1)=((b - 1:Nat):Int) by rw [Xw (by omega)];omega];refine Runs.bind (Runs.mono (Q:=Seg a b xs) (Runs.loop (fun s=>∃ (ys:List Nd) (i j:Nat),s=(ys,(i:Int),(j:Int))/\a<=i/\j < b/\Seg a b xs ys) (fun s=>s.2.2.toNat) ⟨xs,a,b - 1,rfl,Nat.le_refl _,by omega,.refl⟩ ?_) (fun _ h=>Runs.some h));rintro _ ⟨ys,i,j,rfl,h1,h2,hg⟩;have hl:=hg.len;unfold QBo;by_cases hij:i < j
 ·have hx:=List.getElem?_eq_getElem (l:=ys) (i:=i) (by omega);have hy:=List.getElem?_eq_getElem (l:=ys) (i:=j) (by omega);refine Runs.bif_t (ltn hij) (Qbl rfl rfl hx hy (Runs.some ⟨⟨_,i+1,j - 1,?_,by omega,by omega,hg.trans (Seg.swap hx hy (by omega) (by omega) (by omega) (by omega))⟩,?_⟩))
  ·rw [Int.toNat_natCast,Int.toNat_natCast,XI i (by omega),show w64 ((j:Int) - 1)=((j - 1:Nat):Int) by rw [Xw (by omega)];omega]
  ·show (w64 ((j:Int) - 1)).toNat < ((j:Nat):Int).toNat;rw [Xw (by omega)];simp;omega
 ·exact Runs.bif_f (Qil hij) (Runs.some hg)
theorem Qvh {ys:List Nd} {a i:Nat} (hi:i<=ys.length) (h:∀ k x y,a < k->k < i->ys[k]?=some x->ys[k - 1]?=some y->XF x y=false):Zc XF ys a i:=by
 intro k l x y h1 h2 h3 h4 h5;obtain ⟨d,rfl⟩:∃ d,l=k+1+d:=⟨l - (k+1),by omega⟩;clear h2
 induction d generalizing y with
 | zero=>exact h (k+1) y x (by omega) h3 h5 h4
 | succ d ih =>
  have hz:=List.getElem?_eq_getElem (l:=ys) (i:=k+1+d) (by omega);exact ltP_sto.le_tr (ih _ (by omega) hz) (h (k+1+(d+1)) y _ (by omega) h3 h5 hz)
theorem QQa {xs:List Nd} {a b:Nat} (hab:a < b) (hb:b<=xs.length) (hn:xs.length < 1073741824) (h50:b - a < 50) :
  Runs (Qnw xs a b) (fun r=>r.2=xs/\(r.1=true->Zc XF xs a b)):=by
 unfold Qnw;refine Runs.callR (R:=fun o=>∃ r:Bool×List Nd,o=.inl r/\r.2=xs/\(r.1=true->Zc XF xs a b)) ?_ (fun o ⟨r,ho,h⟩=>by subst ho;exact Runs.jl h);refine Runs.loop (fun _:Unit=>True) (fun _=>0) trivial ?_;rintro ⟨⟩ _;unfold QBm;rw [XI a (by omega)];refine Runs.bif_t rfl ?_;refine Runs.callR (R:=fun i=>∃ k:Nat,i=(k:Int)/\k<=b/\Zc XF xs a k) ?_ ?_
 ·refine Runs.loop (fun s=>∃ k:Nat,s=(k:Int)/\a < k/\k<=b/\∀ l x y,a < l->l < k->xs[l]?=some x->xs[l - 1]?=some y->XF x y=false) (fun s=>b - s.toNat) ⟨a+1,rfl,by omega,by omega,fun l x y h1 h2=>by omega⟩ ?_;rintro _ ⟨k,rfl,h1,h2,h3⟩;unfold QBl;by_cases hk:k < b
  ·simp only [ltn hk,cond_true,Bool.true_and,show w64 ((k:Int) - 1)=((k - 1:Nat):Int) by rw [Xw (by omega)];omega];have hx:=List.getElem?_eq_getElem (l:=xs) (i:=k) (by omega);have hy:=List.getElem?_eq_getElem (l:=xs) (i:=k - 1) (by omega);refine Runs.call (Xu?.trans hx) (Runs.call (Xu?.trans hy) (Runs.call (Qbx _ _) ?_));rw [Qbw,XI k (by omega)];refine Runs.bif (fun hc=>Runs.some ⟨⟨k+1,rfl,by omega,by omega,fun l x y h4 h5 h6 h7=>?_⟩,by show b - ((k+1:Nat):Int).toNat < b - ((k:Nat):Int).toNat;simp;omega⟩) (fun hc=>Runs.some ⟨k,rfl,h2,Qvh (by omega) h3⟩);rcases Nat.lt_or_ge l k with e | e
   ·exact h3 l x y h4 e h6 h7
   ·have:l=k:=by omega
    subst this;rw [hx] at h6;cases h6;rw [hy] at h7;cases h7;simpa using hc
  ·simp only [Qil hk,cond_false,Bool.false_and];exact Runs.call rfl (Runs.call rfl (Runs.call rfl (Runs.some ⟨k,rfl,h2,Qvh (by omega) h3⟩)))
 ·rintro _ ⟨k,rfl,hk,hs⟩;refine Runs.bif (fun hc=>Runs.some ⟨(true,xs),rfl,rfl,fun _=>?_⟩) (fun hc=>Runs.bif_t (by rw [Xw (by omega)];simp;omega) (Runs.some ⟨(false,xs),rfl,rfl,fun h=>by cases h⟩));have:k=b:=by simp at hc;omega
  subst this;exact hs
theorem QWc {n:Nat} (h:n < 2 ^ 64):IntKind.wrap .u64 (n:Int)=(n:Int):=by
 unfold IntKind.wrap;simp [IntKind.signed,IntKind.bits];omega
theorem QEi (x:Int) {m:Nat} (hm:m < 1073741824):∃ k:Nat,Qbr .u64 x (m:Int)=(k:Int)/\k<=m:=by
 unfold Qbr;refine ⟨_,QWc (BitVec.isLt _),?_⟩;rw [BitVec.toNat_and];have:(BitVec.ofInt 64 (m:Int)).toNat=m:=by simp;omega
 show _ &&& (BitVec.ofInt 64 (m:Int)).toNat<=m;rw [this];exact Nat.and_le_right
theorem QQf:∀ l:Fin 50,(Qji ((l.val:Nat):Int)).any (fun (q:Int)=>decide (1<=q/\(q<=((2 * l.val:Nat):Int)\/l.val=0)))=true:=by decide +kernel
theorem QQg {l:Nat} (h1:1<=l) (h:l < 50):∃ m:Nat,Qji (l:Int)=some ((m+1:Nat):Int)/\m < 2 * l:=by
 have:=QQf ⟨l,h⟩;cases hq:Qji ((l:Nat):Int) with
 | none=>rw [hq] at this;cases this
 | some q =>
  rw [hq] at this;simp at this;exact ⟨(q - 1).toNat,by congr 1;omega,by omega⟩
theorem QBd (x y:Int) (h:0<=y/\y<=64):∃ q,Qes .u64 x y=some q:=by unfold Qes;rw [if_pos (by simpa [IntKind.bits] using h)];exact ⟨_,rfl⟩
theorem QSg (x y:Int) (h:0<=y/\y<=64):∃ q,Qdh .u64 x y=some q:=by unfold Qdh;rw [if_pos (by simpa [IntKind.bits] using h)];exact ⟨_,rfl⟩
theorem QEz {xs:List Nd} {a b:Nat} (h8:a+8<=b) (hb:b<=xs.length) (hn:xs.length < 1073741824) (h50:b - a < 50):Runs (Qns xs a b) (Seg a b xs):=by
 unfold Qns;have e0:w64 ((b:Int) - (a:Int))=((b - a:Nat):Int):=by rw [Xw (by omega)];omega
 rw [e0];refine Runs.bif_t (by simp;omega) ?_;obtain ⟨m,hm,hm2⟩:=QQg (l:=b - a) (by omega) h50;refine Runs.call hm ?_;have e1:w64 ((a:Int)+w64 (w64 (Int.tdiv ((b - a:Nat):Int) 4) * 2))=((a+(b - a) / 4 * 2:Nat):Int):=by
  rw [Int.tdiv_eq_ediv_of_nonneg (by omega),Xw (x:=((b - a:Nat):Int) / 4) (by omega),Xw (x:=((b - a:Nat):Int) / 4 * 2) (by omega),Xw (by omega)];omega
 rw [e1];refine Runs.bind (Runs.mono (Q:=Seg a b xs) (Runs.loop (fun s=>∃ (ys:List Nd) (i:Nat) (r:Int),s=(ys,(i:Int),r)/\a<=i/\i<=a+(b - a) / 4 * 2+2/\Seg a b xs ys) (fun s=>a+(b - a) / 4 * 2+2 - s.2.1.toNat) ⟨xs,a+(b - a) / 4 * 2 - 1,_,by rw [show w64 (((a+(b - a) / 4 * 2:Nat):Int) - 1)=((a+(b - a) / 4 * 2 - 1:Nat):Int) by rw [Xw (by omega)];omega],by omega,by omega,.refl⟩ ?_) (fun _ h=>Runs.some h));rintro _ ⟨ys,i,r,rfl,h1,h2,hg⟩;have hl:=hg.len;unfold QBh;simp only [e0,e1];rw [XI (a+(b - a) / 4 * 2) (by omega)];refine Runs.bif (fun hc=>?_) (fun hc=>Runs.some hg);have hc:i<=a+(b - a) / 4 * 2+1:=by simp at hc;omega
 obtain ⟨q1,hq1⟩:=QBd r 13 (by omega);refine Runs.call hq1 ?_;obtain ⟨q2,hq2⟩:=QSg (Yb .u64 r q1) 7 (by omega);refine Runs.call hq2 ?_;obtain ⟨q3,hq3⟩:=QBd (Yb .u64 (Yb .u64 r q1) q2) 17 (by omega);refine Runs.call hq3 ?_;have em:IntKind.wrap .u64 (((m+1:Nat):Int) - 1)=(m:Int):=by
  unfold IntKind.wrap;simp [IntKind.signed,IntKind.bits];omega
 rw [em];obtain ⟨k,hk,hk2⟩:=QEi (Yb .u64 (Yb .u64 (Yb .u64 r q1) q2) q3) (m:=m) (by omega);rw [hk,Xw (x:=(k:Int)) (by omega)];refine Runs.callR (R:=fun o=>∃ k:Nat,o=(k:Int)/\k < b - a) (Runs.bif (fun hc=>Runs.some ⟨k - (b - a),?_,by omega⟩) (fun hc=>Runs.some ⟨k,rfl,by simp at hc;omega⟩)) ?_
 ·simp at hc;rw [Xw (by omega)];omega
 rintro _ ⟨o,rfl,ho⟩;rw [show w64 ((a:Int)+(o:Int))=((a+o:Nat):Int) by rw [Xw (by omega)];omega];have hx:=List.getElem?_eq_getElem (l:=ys) (i:=i) (by omega);have hy:=List.getElem?_eq_getElem (l:=ys) (i:=a+o) (by omega);refine Qbl rfl rfl hx hy (Runs.some ⟨⟨_,i+1,_,by rw [Int.toNat_natCast,Int.toNat_natCast,XI i (by omega)],by omega,by omega,hg.trans (Seg.swap hx hy (by omega) (by omega) (by omega) (by omega))⟩,?_⟩);show a+(b - a) / 4 * 2+2 - (w64 ((i:Int)+1)).toNat < a+(b - a) / 4 * 2+2 - ((i:Nat):Int).toNat;rw [XI i (by omega)];simp;omega
theorem QQb {xs:List Nd} {a b:Nat} (h8:a+8<=b) (hb:b<=xs.length) (hn:xs.length < 1073741824) (h50:b - a < 50):Runs (Qnt xs a b) (fun r=>r.2=xs/\∃ k:Nat,r.1.1=(k:Int)/\a<=k/\k < b):=by
 unfold Qnt;have e0:w64 ((b:Int) - (a:Int))=((b - a:Nat):Int):=by rw [Xw (by omega)];omega
 have e4:w64 (Int.tdiv ((b - a:Nat):Int) 4)=(((b - a) / 4:Nat):Int):=by rw [Int.tdiv_eq_ediv_of_nonneg (by omega),Xw (by omega)];omega
 have ek1:w64 ((a:Int)+w64 ((((b - a) / 4:Nat):Int) * 1))=((a+(b - a) / 4 * 1:Nat):Int):=by rw [Xw (x:=(((b - a) / 4:Nat):Int) * 1) (by omega),Xw (by omega)];omega
 have ek2:w64 ((a:Int)+w64 ((((b - a) / 4:Nat):Int) * 2))=((a+(b - a) / 4 * 2:Nat):Int):=by rw [Xw (x:=(((b - a) / 4:Nat):Int) * 2) (by omega),Xw (by omega)];omega
 have ek3:w64 ((a:Int)+w64 ((((b - a) / 4:Nat):Int) * 3))=((a+(b - a) / 4 * 3:Nat):Int):=by rw [Xw (x:=(((b - a) / 4:Nat):Int) * 3) (by omega),Xw (by omega)];omega
 rw [e0,e4];refine Runs.callR (R:=fun r=>∃ k:Nat,r.1=(k:Int)/\a<=k/\k < b) (Runs.bif_t (by simp;omega) (Runs.bif_f (by simp;omega) ?_)) ?_
 ·have h1:=List.getElem?_eq_getElem (l:=xs) (i:=a+(b - a) / 4 * 1) (by omega);have h2:=List.getElem?_eq_getElem (l:=xs) (i:=a+(b - a) / 4 * 2) (by omega);have h3:=List.getElem?_eq_getElem (l:=xs) (i:=a+(b - a) / 4 * 3) (by omega);rw [ek1,ek2,ek3];have k1:a+(b - a) / 4 * 1 < b:=by omega
  have k2:a+(b - a) / 4 * 2 < b:=by omega
  have k3:a+(b - a) / 4 * 3 < b:=by omega
  have m1:a<=a+(b - a) / 4 * 1:=by omega
  have m2:a<=a+(b - a) / 4 * 2:=by omega
  have m3:a<=a+(b - a) / 4 * 3:=by omega
  simp only [Xu?,h1,h2,h3,Qv,Qbx,Qbw]
  repeat' refine Runs.bif (fun _=>?_) (fun _=>?_)
  all_goals first | exact Runs.some ⟨_,rfl,m1,k1⟩ | exact Runs.some ⟨_,rfl,m2,k2⟩ | exact Runs.some ⟨_,rfl,m3,k3⟩
 ·rintro ⟨r1,r2⟩ ⟨k,rfl,h1,h2⟩;refine Runs.bif (fun _=>Runs.some ⟨rfl,k,rfl,h1,h2⟩) (fun _=>Runs.bif (fun _=>Runs.some ⟨rfl,k,rfl,h1,h2⟩) (fun _=>Runs.some ⟨rfl,k,rfl,h1,h2⟩))
def Head (xs:List Nd) (a b:Nat):Prop:=a=0\/∃ u,xs[a - 1]?=some u/\∀ k x,a<=k->k < b->xs[k]?=some x->XF u x=true
theorem Head.seg {xs ys:List Nd} {a b:Nat} (h:Head xs a b) (g:Seg a b xs ys):Head ys a b:=by
 rcases h with h | ⟨u,h1,h2⟩
 ·exact .inl h
 ·by_cases e:a=0
  ·exact .inl e
  exact .inr ⟨u,by rw [g.out (a - 1) (by omega)];exact h1,g.all h2⟩
theorem Head.cut {xs:List Nd} {a b b':Nat} (h:Head xs a b) (hb:b'<=b):Head xs a b':=by
 rcases h with h | ⟨u,h1,h2⟩
 ·exact .inl h
 ·exact .inr ⟨u,h1,fun k x h3 h4=>h2 k x h3 (by omega)⟩
theorem QOw {xs:List Nd} (h:xs.Nodup) {i j:Nat} {x:Nd} (hi:xs[i]?=some x) (hj:xs[j]?=some x):i=j:=by
 obtain ⟨h1,e1⟩:=List.getElem?_eq_some_iff.1 hi;obtain ⟨h2,e2⟩:=List.getElem?_eq_some_iff.1 hj;have hp:=List.pairwise_iff_getElem.1 h;rcases Nat.lt_trichotomy i j with e | e | e
 ·exact absurd (e1.trans e2.symm) (hp i j h1 h2 e)
 ·exact e
 ·exact absurd (e2.trans e1.symm) (hp j i h2 h1 e)
theorem Part.head {xs:List Nd} {a m b:Nat} {v:Nd} (p:Part XF xs a m b v) (hn:xs.Nodup):Head xs (m+1) b :=
 .inr ⟨v,p.at_,fun k x h1 h2 h3=>by
  have h4:=p.hi k x (by omega) h2 h3;cases h5:XF v x with
  | true=>rfl
  | false =>
   have:=ltP_sto.tot x v h4 h5;subst this;have:=QOw hn p.at_ h3;omega⟩
theorem QPz:∀ (fl:Nat) {xs:List Nd} {a b:Nat} {lim:Int},a<=b->b<=xs.length->xs.length < 1073741824->b - a < 50->b - a < 13 * 2 ^ fl->xs.Nodup->0<=lim->lim < 1000->Head xs a b ->
  Runs (Qcj (fl+1) xs a b lim) (fun ys=>Seg a b xs ys/\Zc XF ys a b):=by
 intro fl
 induction fl with
 | zero =>
  intro xs a b lim hab hb hn h50 hfl hnd hl0 hl1 hh;show Runs (Qgm (Qcj 0) xs a b lim) _;unfold Qgm;refine Runs.callR (R:=fun o=>∃ ys,o=.inl ys/\Seg a b xs ys/\Zc XF ys a b) (Runs.loop (fun s=>s=(xs,(a:Int),(b:Int),lim,true,true)) (fun _=>0) rfl ?_) (fun o ⟨ys,ho,h⟩=>by subst ho;exact Runs.jl h);rintro _ rfl;unfold Qtv;refine Runs.bif_t (by rw [Xw (by omega)];simp;omega) (Runs.callR (Qxd hab hb hn) fun ys h=>Runs.some ⟨ys,rfl,h⟩)
 | succ fl ih =>
  intro xs a b lim hab hb hn h50 hfl hnd hl0 hl1 hh;show Runs (Qgm (Qcj (fl+1)) xs a b lim) _;unfold Qgm;refine Runs.callR (R:=fun o=>∃ ys,o=.inl ys/\Seg a b xs ys/\Zc XF ys a b) (Runs.loop (fun s=>∃ (ys:List Nd) (c d:Nat) (l:Int) (p q:Bool),s=(ys,(c:Int),(d:Int),l,p,q)/\a<=c/\c<=d/\d<=b/\Seg a b xs ys/\Mid XF ys a c d b/\Head ys c d/\0<=l/\l < 1000) (fun s=>(s.2.2.1 - s.2.1).toNat) ⟨xs,a,b,lim,true,true,rfl,Nat.le_refl _,hab,Nat.le_refl _,.refl,Mid.all,hh,hl0,hl1⟩ ?_) (fun o ⟨ys,ho,h⟩=>by subst ho;exact Runs.jl h);rintro _ ⟨ys,c,d,l,p,q,rfl,h1,h2,h3,hg,hm,hh,hl0,hl1⟩;have hlen:=hg.len;have hnd:ys.Nodup:=hg.perm.nodup_iff.2 hnd;have ew:w64 ((d:Int) - (c:Int))=((d - c:Nat):Int):=by rw [Xw (by omega)];omega
  unfold Qtv;simp only [ew];refine Runs.bif (fun hc=>Runs.callR (Qxd h2 (by omega) (by omega)) fun zs ⟨k1,k2⟩=>Runs.some ⟨zs,rfl,hg.trans (k1.mono h1 h3),(hm.seg k1 h1 h3).srt k2⟩) (fun hc=>?_);have h13:13<=d - c:=by simp at hc;omega
  refine Runs.bif (fun hc=>Runs.callR (QJc (by omega) (by omega) (by omega)) fun zs ⟨k1,k2⟩=>Runs.some ⟨zs,rfl,hg.trans (k1.mono h1 h3),(hm.seg k1 h1 h3).srt k2⟩) (fun hc=>?_);have hl2:l≠0:=by simpa using hc
  refine Runs.callR (R:=fun r=>Seg c d ys r.1/\0<=r.2/\r.2 < 1000) (Runs.bif (fun _=>Runs.callR (QEz (by omega) (by omega) (by omega) (by omega)) fun zs k=>Runs.some ⟨k,by rw [Xw (by omega)];omega,by rw [Xw (by omega)];omega⟩) (fun _=>Runs.some ⟨.refl,hl0,hl1⟩)) ?_;rintro ⟨y1,l1⟩ ⟨g1,m1,m2⟩;simp only at g1 m1 m2;dsimp only;have n1:=g1.len;refine Runs.callR (QQb (a:=c) (b:=d) (by omega) (by omega) (by omega) (by omega)) ?_;rintro ⟨⟨pv,hint⟩,y1'⟩ ⟨hy1,pk,hpk,p1,p2⟩;simp only at hy1 hpk;subst hy1 hpk;dsimp only;refine Runs.callR (R:=fun r=>Seg c d ys r.1/\∃ k:Nat,r.2.1=(k:Int)/\c<=k/\k < d) (Runs.bif (fun _=>Runs.callR (QRc (by omega) (by omega) (by omega)) fun zs k=>Runs.some ⟨g1.trans k,d - 1 - (pk - c),by rw [Xw (x:=(d:Int) - 1) (by omega),Xw (x:=(pk:Int) - (c:Int)) (by omega),Xw (by omega)];dsimp only;omega,by omega,by omega⟩) (fun _=>Runs.some ⟨g1,pk,rfl,p1,p2⟩)) ?_;rintro ⟨y2,pv,hint⟩ ⟨g2,pk,hpk,p1,p2⟩;simp only at g2 hpk;subst hpk;dsimp only;have n2:=g2.len;refine Runs.callR (R:=fun o=>(∃ zs,o=.inl (.inr (.inl zs))/\Seg c d ys zs/\Zc XF zs c d)\/∃ zs,o=.inr zs/\Seg c d ys zs) (Runs.bif (fun _=>Runs.callR (QQa (by omega) (by omega) (by omega) (by omega)) ?_) (fun _=>Runs.some (.inr ⟨y2,rfl,g2⟩))) ?_
  ·rintro ⟨r1,r2⟩ ⟨hr,hs⟩;simp only at hr;subst hr;exact Runs.bif (fun ht=>Runs.some (.inl ⟨_,rfl,g2,hs ht⟩)) (fun _=>Runs.some (.inr ⟨_,rfl,g2⟩))
  rintro o (⟨zs,rfl,g3,hs⟩ | ⟨zs,rfl,g3⟩)
  ·exact Runs.jl ⟨zs,rfl,hg.trans (g3.mono h1 h3),(hm.seg g3 h1 h3).srt hs⟩
  refine Runs.jr ?_;have n3:=g3.len;have hh3:=hh.seg g3;have hm3:=hm.seg g3 h1 h3;have hg3:=hg.trans (g3.mono h1 h3);have hx:=List.getElem?_eq_getElem (l:=zs) (i:=pk) (by omega)
  -- what stands ahead is less than the pivot
  have key:∀ {β:Type} (A B:Option β),(Option.bind ((bif (decide (0 < (c:Int))) then idx zs (w64 ((c:Int) - 1)) else some default)) fun el1060=>(Option.bind ((bif (decide (0 < (c:Int))) then idx zs (pk:Int) else some default)) fun el1065=>(Option.bind (bif (decide (0 < (c:Int))) then Zn el1060 el1065 else some default) fun r1070=>(bif ((decide (0 < (c:Int)))&&(!(decide (r1070 < 0)))) then A else B))))=B:=fun A B=>by
   by_cases e:0 < c
   ·rw [show decide (0 < (c:Int))=true by simp;omega];rcases hh3 with e' | ⟨u,hu,hk⟩
    ·omega
    ·simp only [cond_true,Bool.true_and,show w64 ((c:Int) - 1)=((c - 1:Nat):Int) by rw [Xw (by omega)];omega,Xu?,hu,hx,Qv,Qbx,Qbw,hk pk _ p1 p2 hx,Bool.not_true,cond_false]
   ·rw [show decide (0 < (c:Int))=false by simp;omega];rfl
  rw [key];refine Runs.callR (QPy p1 p2 (by omega) (by omega)) ?_;rintro ⟨⟨mm,al⟩,y4⟩ ⟨g4,m,v,hmm,q1,q2,hp⟩;simp only at g4 hmm hp;subst hmm;dsimp only;have n4:=g4.len;have hm4:=hm3.seg g4 h1 h3;have hg4:=hg3.trans (g4.mono h1 h3);have hh4:=hh3.seg g4;have hnd4:y4.Nodup:=(g3.trans g4).perm.nodup_iff.2 hnd;rw [show w64 ((m:Int) - (c:Int))=((m - c:Nat):Int) by rw [Xw (by omega)];omega,show w64 ((d:Int) - (m:Int))=((d - m:Nat):Int) by rw [Xw (by omega)];omega,XI m (by omega)];have hpow:2 ^ (fl+1)=2 * 2 ^ fl:=by rw [Nat.pow_succ];omega
  refine Runs.bif (fun hc=>?_) (fun hc=>?_)
  ·have hc:m - c < d - m:=by simp at hc;omega
   refine Runs.callR (ih (by omega) (by omega) (by omega) (by omega) (by omega) hnd4 m1 m2 (hh4.cut (by omega))) fun zs ⟨k1,k2⟩=>Runs.some ⟨⟨zs,m+1,d,l1,_,_,rfl,by omega,by omega,h3,hg4.trans (k1.mono h1 (by omega)),?_,?_,m1,m2⟩,?_⟩
   ·exact (hp.seg k1 (.inl ⟨Nat.le_refl _,Nat.le_refl _⟩)).left ltP_sto (hm4.seg (k1.mono (Nat.le_refl _) (by omega)) h1 h3) k2
   ·exact (hp.seg k1 (.inl ⟨Nat.le_refl _,Nat.le_refl _⟩)).head (k1.perm.nodup_iff.2 hnd4)
   ·show ((d:Int) - ((m+1:Nat):Int)).toNat < ((d:Int) - (c:Int)).toNat;omega
  ·have hc:d - m<=m - c:=by simp at hc;omega
   refine Runs.callR (ih (a:=m+1) (by omega) (by omega) (by omega) (by omega) (by omega) hnd4 m1 m2 (hp.head hnd4)) fun zs ⟨k1,k2⟩=>Runs.some ⟨⟨zs,c,m,l1,_,_,rfl,h1,q1,by omega,hg4.trans (k1.mono (by omega) h3),?_,?_,m1,m2⟩,?_⟩
   ·exact (hp.seg k1 (.inr ⟨by omega,Nat.le_refl _⟩)).right ltP_sto (hm4.seg (k1.mono (by omega) (Nat.le_refl _)) h1 h3) k2
   ·exact (hh4.seg (k1.mono (by omega) (Nat.le_refl _))).cut (by omega)
   ·show ((m:Int) - (c:Int)).toNat < ((d:Int) - (c:Int)).toNat;omega
theorem QJz:∀ l:Fin 50,(Qij (IntKind.wrap .u64 ((l.val:Nat):Int))).any (fun (q:Int)=>decide (0<=q/\q < 1000))=true:=by decide +kernel
theorem QTg {xs:List Nd} (hl:xs.length < 50) (hnd:xs.Nodup):∃ ys,Qjh xs=some ys/\ys.Perm xs/\Zc XF ys 0 ys.length:=by
 have key:Runs (Qjh xs) (fun ys=>ys.Perm xs/\Zc XF ys 0 ys.length):=by
  unfold Qjh;have:=QJz ⟨xs.length,hl⟩;cases hq:Qij (IntKind.wrap .u64 ((xs.length:Nat):Int)) with
  | none=>rw [show ((⟨xs.length,hl⟩:Fin 50)).val=xs.length from rfl,hq] at this;cases this
  | some q =>
   rw [show ((⟨xs.length,hl⟩:Fin 50)).val=xs.length from rfl,hq] at this;simp at this;refine Runs.call rfl ?_;refine Runs.callR (QPz 5 (a:=0) (b:=xs.length) (Nat.zero_le _) (Nat.le_refl _) (by omega) (by omega) (by omega) hnd this.1 this.2 (.inl rfl)) fun ys ⟨h1,h2⟩=>Runs.some ⟨h1.perm,by rw [h1.len];exact h2⟩
 exact key
end Go.Gw

end
section
set_option maxRecDepth 4096
namespace Go.Gw
open Go
attribute [local irreducible] loop
theorem QFd (l:List Int) (r:Nn) (hl:l.length < 1000) (hr:r.Nb.length < 1000):Qno l r=some (l.any fun s=>decide (s∈r.Nb)):=by
 unfold Qno Qto;rw [Zt l (fun s=>decide (s∈r.Nb)) (fun k _=>(k:Int)),Qv,Qeu,Qv,Qgn]
 ·intro k hk;unfold Qtn;rw [XZ hk,Xu hk,XI k (by omega)];unfold Qrf;simp only [cond_true,Qv,Qea _ _ (show r.Nb.length < 1000000 by omega)]
 ·unfold Qtn;rw [X2];rfl
def Qer (p:Nf) (k:Nat):List Int:=(p.Ni[k]?.map (·.Nb)).getD []
def cfl (p:Nf) (a b:Nat):Bool:=(Qer p a).any fun s=>decide (s∈Qer p b)
theorem Qjc {p:Nf} {k:Nat} (h:k < p.Ni.length):Qer p k=p.Ni[k].Nb:=by unfold Qer;rw [List.getElem?_eq_getElem h];rfl
def prI (a b:Nat):Nd:=⟨(a:Int),(b:Int)⟩
theorem QQh {a b c d:Nat} (h:prI a b=prI c d):a=c/\b=d:=by
 unfold prI at h;have h1:=congrArg Nd.e0 h;have h2:=congrArg Nd.e1 h;dsimp only at h1 h2;omega
def Cfl (p:Nf) (ok:Nat->Nat->Prop) (x:Nd):Prop:=∃ a b,x=prI a b/\a < b/\b < p.Ni.length/\cfl p a b=true/\ok a b
def tri:Nat->Nat
 | 0=>0
 | n+1=>tri n+n
theorem QCq {n:Nat} (h:n<=10):tri n<=45:=by
 have:∀ k:Fin 11,tri k.val<=45:=by decide
 exact this ⟨n,by omega⟩
structure CflL (p:Nf) (ok:Nat->Nat->Prop) (l:List Nd) (n:Nat):Prop where
 len:l.length<=n
 nd:l.Nodup
 mem:∀ x,x∈l↔Cfl p ok x
theorem CflL.more {p:Nf} {ok ok':Nat->Nat->Prop} {l:List Nd} {n a b:Nat} (h:CflL p ok l n) (hab:a < b) (hb:b < p.Ni.length) (hc:cfl p a b=true) (hn:¬ ok a b) (hk:∀ c d,ok' c d↔ok c d\/(c=a/\d=b)):CflL p ok' (l++[prI a b]) (n+1):=by
 refine ⟨by have:=h.len;simp;omega,?_,fun x=>?_⟩
 ·rw [List.nodup_append];refine ⟨h.nd,by simp,fun x hx y hy e=>?_⟩;simp at hy;subst hy e;obtain ⟨c,d,e,_,_,_,k⟩:=(h.mem _).1 hx;obtain ⟨rfl,rfl⟩:=QQh e;exact hn k
 ·rw [List.mem_append,h.mem,List.mem_singleton];constructor
  ·rintro (⟨c,d,e,h1,h2,h3,h4⟩ | rfl)
   ·exact ⟨c,d,e,h1,h2,h3,(hk c d).2 (.inl h4)⟩
   ·exact ⟨a,b,rfl,hab,hb,hc,(hk a b).2 (.inr ⟨rfl,rfl⟩)⟩
  ·rintro ⟨c,d,e,h1,h2,h3,h4⟩;rcases (hk c d).1 h4 with h4 | ⟨rfl,rfl⟩
   ·exact .inl ⟨c,d,e,h1,h2,h3,h4⟩
   ·exact .inr e
theorem CflL.less {p:Nf} {ok ok':Nat->Nat->Prop} {l:List Nd} {n n':Nat} (h:CflL p ok l n) (hn:n<=n') (hk:∀ c d,c < d->d < p.Ni.length->cfl p c d=true->(ok' c d↔ok c d)):CflL p ok' l n' :=
 ⟨Nat.le_trans h.len hn,h.nd,fun x=>(h.mem x).trans ⟨fun ⟨c,d,e,h1,h2,h3,h4⟩=>⟨c,d,e,h1,h2,h3,(hk c d h1 h2 h3).2 h4⟩,fun ⟨c,d,e,h1,h2,h3,h4⟩=>⟨c,d,e,h1,h2,h3,(hk c d h1 h2 h3).1 h4⟩⟩⟩
theorem QIo {p:Nf} (hS:PlantS p) (hr:p.Ni.length<=10):Runs (loop (Qrg p) ([],0)) (fun l=>CflL p (fun _ _=>True) l 45):=by
 refine Runs.mono (Q:=fun l=>CflL p (fun _ d=>d < p.Ni.length) l (tri p.Ni.length)) (Runs.loop (fun s=>∃ (l:List Nd) (b:Nat),s=(l,(b:Int))/\b<=p.Ni.length/\CflL p (fun _ d=>d < b) l (tri b)) (fun s=>p.Ni.length - s.2.toNat) ⟨[],0,rfl,Nat.zero_le _,by simp [tri],by simp,fun x=>⟨fun h=>(by cases h),fun ⟨_,_,_,_,_,_,h⟩=>absurd h (by omega)⟩⟩ ?_) (fun l h=>h.less (QCq hr) fun c d h1 h2 h3=>⟨fun _=>h2,fun _=>trivial⟩);rintro _ ⟨l,b,rfl,hb,h⟩;unfold Qrg;by_cases hlt:b < p.Ni.length
 ·have hR:=hS.rn _ (List.getElem_mem hlt);refine Runs.bif_t (XZ hlt) (Runs.call (Xu hlt) (Runs.call (Qcy (by omega)) ?_));refine Runs.callR (R:=fun l=>CflL p (fun c d=>d < b\/(d=b/\c < b)) l (tri b+b)) (Runs.loop (fun s=>∃ (l:List Nd) (a:Nat),s=(l,(a:Int))/\a<=b/\CflL p (fun c d=>d < b\/(d=b/\c < a)) l (tri b+a)) (fun s=>b - s.2.toNat) ⟨l,0,rfl,Nat.zero_le _,h.less (Nat.le_refl _) fun c d _ _ _=>by omega⟩ ?_) ?_
  ·rintro _ ⟨l,a,rfl,ha,h⟩;have ht:=QCq (n:=b) (by omega);have hll:=h.len;unfold Qxr;have hlen:(p.Ni.take b).length=b:=by simp;omega
   by_cases hab:a < b
   ·have hA:=hS.rn _ (List.getElem_mem (show a < p.Ni.length by omega));rw [hlen];refine Runs.bif_t (XZ hab) (Runs.call (Xu (xs:=p.Ni.take b) (k:=a) (by omega)) ?_);rw [List.getElem_take];refine Runs.call (QFd _ _ (by omega) (by omega)) ?_;have hc:(p.Ni[a].Nb.any fun s=>decide (s∈p.Ni[b].Nb))=cfl p a b:=by unfold cfl;rw [Qjc,Qjc]
    rw [hc,XI a (by omega)];refine Runs.bif (fun ht=>Runs.call (JO (by simp;omega)) (Runs.some ⟨⟨_,a+1,rfl,by omega,h.more hab hlt ht (by omega) (by omega)⟩,?_⟩)) (fun hf=>Runs.some ⟨⟨_,a+1,rfl,by omega,h.less (by omega) fun c d h1 h2 h3=>?_⟩,?_⟩)
    ·show b - ((a+1:Nat):Int).toNat < b - ((a:Nat):Int).toNat;simp;omega
    ·have:¬(d=b/\c=a):=fun ⟨e1,e2⟩=>by subst e1 e2;rw [h3] at hf;cases hf
     omega
    ·show b - ((a+1:Nat):Int).toNat < b - ((a:Nat):Int).toNat;simp;omega
   ·have:a=b:=by omega
    subst this;rw [hlen];exact Runs.bif_f (X2 a) (Runs.some h)
  ·intro l h;rw [XI b (by omega)];refine Runs.some ⟨⟨l,b+1,rfl,by omega,h.less (Nat.le_refl _) fun c d _ _ _=>by omega⟩,?_⟩;show p.Ni.length - ((b+1:Nat):Int).toNat < p.Ni.length - ((b:Nat):Int).toNat;simp;omega
 ·have:b=p.Ni.length:=by omega
  subst this;exact Runs.bif_f (X2 _) (Runs.some h)
structure CflR (p:Nf) (l:List Nd):Prop where
 up:l.Pairwise fun x y=>XF x y=true
 mem:∀ x,x∈l↔Cfl p (fun _ _=>True) x
 len:l.length < 1000
theorem QTi {l:List Nd} (h:Zc XF l 0 l.length) (hn:l.Nodup):l.Pairwise fun x y=>XF x y=true:=by
 rw [List.pairwise_iff_getElem];intro i j hi hj hij;have h1:=h i j _ _ (Nat.zero_le _) hij hj (List.getElem?_eq_getElem hi) (List.getElem?_eq_getElem hj);cases h2:XF l[i] l[j] with
 | true=>rfl
 | false=>exact absurd (ltP_sto.tot _ _ h2 h1) (List.pairwise_iff_getElem.1 hn i j hi hj hij)
theorem QFq {p:Nf} (hS:PlantS p) (hp:PlantOk p) (h0:(ZG p).2=0):∃ l,Qft p=some (l,0)/\CflR p l:=by
 have key:Runs (Qft p) (fun r=>r.2=0/\CflR p r.1):=by
  unfold Qft;refine Runs.call (Qsq hS) (Runs.bif_f (by rw [h0];rfl) ?_);refine Runs.callR (QIo hS hp.r10) fun l h=>?_;obtain ⟨ys,hy,h1,h2⟩:=QTg (xs:=l) (by have:=h.len;omega) h.nd;exact Runs.call hy (Runs.some ⟨rfl,QTi h2 (h1.nodup_iff.2 h.nd),fun x=>h1.mem_iff.trans (h.mem x),by have:=h.len;have:=h1.length_eq;show ys.length < 1000;omega⟩)
 obtain ⟨⟨l,e⟩,h1,rfl,h2⟩:=key;exact ⟨l,h1,h2⟩
/-! ### The routes from a section -/
end Go.Gw

end
