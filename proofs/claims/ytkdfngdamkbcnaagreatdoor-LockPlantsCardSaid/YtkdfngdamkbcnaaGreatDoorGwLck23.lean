/- Laws of the walk. Condition: each theorem says its own. -/
import Derived.Test.YtkdfngdamkbcnaaGreatDoorGwOnA
import Derived.Test.YtkdfngdamkbcnaaGreatDoorGwAwakeLock
set_option linter.unusedVariables false
set_option linter.unusedSimpArgs false
set_option linter.unusedSectionVars false
section
set_option maxRecDepth 4096
set_option linter.unusedVariables false
namespace Go.Gw
open Go
attribute [local irreducible] loop
def Xt (x y:Na):Bool:=decide (x.e0 < y.e0\/(x.e0=y.e0/\x.e1 < y.e1))
theorem ltP_sto:STO Xt where
 irr x:=by simp [Xt]
 tr x y z h k:=by simp [Xt] at *;omega
 tot x y h k:=by
  obtain ⟨a,b⟩:=x;obtain ⟨c,d⟩:=y;simp [Xt] at *;omega
def Qib (x y:Na):Int:=if x.e0 < y.e0 then -1 else if y.e0 < x.e0 then 1 else if x.e1 < y.e1 then -1 else if y.e1 < x.e1 then 1 else 0
theorem Qap (x y:Na):decide (Qib x y < 0)=Xt x y:=by
 unfold Qib Xt;by_cases h1:x.e0 < y.e0
 ·simp [h1]
 by_cases h2:y.e0 < x.e0
 ·have:¬ x.e0=y.e0:=by omega
  simp [h1,h2,this]
 have:x.e0=y.e0:=by omega
 by_cases h3:x.e1 < y.e1
 ·simp [this,h3]
 by_cases h4:y.e1 < x.e1
 ·simp [this,h3,h4]
 ·simp [this,h3,h4]
def Jo (a b:Int):Int:=if a < b then -1 else if b < a then 1 else 0
theorem QBv (a b:Int):Qdp a b=some (Jo a b):=by
 have h:∀ x,Qfj x=some false:=fun x=>by unfold Qfj;simp
 unfold Qdp Jo;rw [h,h];by_cases h1:a < b
 ·simp [h1]
 by_cases h2:b < a
 ·simp [h1,h2]
 ·simp [h1,h2]
theorem Qaq (x y:Na):Y6 x y=some (Qib x y):=by
 have key:loop (Qgr [x.e0,x.e1] [y.e0,y.e1]) 0=some (bif !decide (Jo x.e0 y.e0=0) then .inl (Jo x.e0 y.e0) else bif !decide (Jo x.e1 y.e1=0) then .inl (Jo x.e1 y.e1) else .inr ()):=by
  refine loop_iff.2 ⟨3,?_⟩;have s0:Qgr [x.e0,x.e1] [y.e0,y.e1] 0=Option.bind (Qdp x.e0 y.e0) fun r=>bif !decide (r=0) then some (.inr (.inl r)) else some (.inl 1):=rfl
  have s1:Qgr [x.e0,x.e1] [y.e0,y.e1] 1=Option.bind (Qdp x.e1 y.e1) fun r=>bif !decide (r=0) then some (.inr (.inl r)) else some (.inl 2):=rfl
  have s2:Qgr [x.e0,x.e1] [y.e0,y.e1] 2=some (.inr (.inr ())):=rfl;rw [QBv,QE] at s0 s1;generalize Jo x.e0 y.e0=c0 at *
  generalize Jo x.e1 y.e1=c1 at *
  by_cases h0:c0=0
  ·by_cases h1:c1=0
   ·simp [Yz, *]
   ·simp [Yz, *]
  ·simp [Yz, *]
 unfold Y6 Qqc;rw [key];unfold Qib;by_cases h1:x.e0 < y.e0
 ·simp [Jo,h1,Xu]
 by_cases h2:y.e0 < x.e0
 ·simp [Jo,h1,h2,Xu]
 by_cases h3:x.e1 < y.e1
 ·simp [Jo,h1,h2,h3,Xu]
 by_cases h4:y.e1 < x.e1
 ·simp [Jo,h1,h2,h3,h4,Xu]
 ·simp [Jo,h1,h2,h3,h4,Xu]
theorem Qai {α β:Type} {xs:List α} {I J:Int} {i j:Nat} {x y:α} {f:α->α->Option β} {Q:β->Prop} (hI:I=i) (hJ:J=j) (hi:xs[i]?=some x) (hj:xs[j]?=some y) (h:Runs (f y x) Q) :
  Runs (Option.bind (idx xs J) fun e1=>Option.bind (idx xs I) fun e2=>Option.bind (idx xs I) fun _=>Option.bind (idx (xs.set I.toNat e1) J) fun _=>f e1 e2) Q:=by
 subst hI hJ;refine Runs.call (Xw?.trans hj) (Runs.call (Xw?.trans hi) (Runs.call (Xw?.trans hi) ?_));have hl:=(List.getElem?_eq_some_iff.1 hj).1;exact Runs.call (Xw?.trans (List.getElem?_eq_getElem (by simpa using hl))) h
theorem ltn {a b:Nat} (h:a < b):decide ((a:Int) < (b:Int))=true:=by simp;omega
theorem Qfy {a b:Nat} (h:¬ a < b):decide ((a:Int) < (b:Int))=false:=by simp;omega
theorem QFp {xs:List Na} {a i:Nat} (hai:a<=i) (hi:i < xs.length) (hn:xs.length < 1073741824) (hs:YY Xt xs a i) :
  Runs (loop (Qqi (a:Int)) (xs,(i:Int))) (fun ys=>Seg a (i+1) xs ys/\YY Xt ys a (i+1)):=by
 refine Runs.loop (fun s=>∃ (ys:List Na) (j:Nat),s=(ys,(j:Int))/\a<=j/\j<=i/\Seg a (i+1) xs ys/\(∀ k l x y,a<=k->k < l->l<=i->k≠j->l≠j->ys[k]?=some x->ys[l]?=some y->Xt y x=false)/\(∀ k x y,j < k->k<=i->ys[j]?=some x->ys[k]?=some y->Xt y x=false))
  (fun s=>s.2.toNat) ⟨xs,i,rfl,hai,Nat.le_refl _,.refl,fun k l x y h1 h2 h3 h4 h5=>hs k l x y h1 h2 (by omega),fun k x y h1 h2=>by omega⟩ ?_
 rintro _ ⟨ys,j,rfl,h1,h2,hg,hp,hq⟩;have hl:=hg.len;unfold Qqi;by_cases ha:a < j
 ·have e1:w64 ((j:Int) - 1)=((j - 1:Nat):Int):=by rw [Xz (by omega)];omega
  simp only [ltn ha,cond_true,Bool.true_and,e1];obtain ⟨x,hx⟩:=hg.get (k:=j) (by omega);obtain ⟨y,hy⟩:=hg.get (k:=j - 1) (by omega);refine Runs.call (Xw?.trans hx) (Runs.call (Xw?.trans hy) (Runs.call (Qaq _ _) ?_));rw [Qap];refine Runs.bif (fun hc=>Qai rfl rfl hx hy (Runs.some ⟨⟨_,j - 1,rfl,by omega,by omega,hg.trans (Seg.swap hx hy (by omega) (by omega) (by omega) (by omega)),?_,?_⟩,?_⟩)) (fun hc=>Runs.some ⟨hg,?_⟩)
  ·intro k l u v h3 h4 h5 h6 h7 h8 h9;rw [Int.toNat_natCast,Int.toNat_natCast,Zx hx hy] at h8 h9;rw [if_neg h6] at h8;rw [if_neg h7] at h9;by_cases e:k=j
   ·rw [if_pos e] at h8;cases h8;rw [if_neg (by omega)] at h9;exact hp (j - 1) l y v (by omega) (by omega) h5 (by omega) (by omega) hy h9
   ·rw [if_neg e] at h8;by_cases e':l=j
    ·rw [if_pos e'] at h9;cases h9;exact hp k (j - 1) u y h3 (by omega) (by omega) e (by omega) h8 hy
    ·rw [if_neg e'] at h9;exact hp k l u v h3 h4 h5 e e' h8 h9
  ·intro k u v h3 h4 h5 h6;rw [Int.toNat_natCast,Int.toNat_natCast,Zx hx hy] at h5 h6;rw [if_pos rfl] at h5;cases h5;rw [if_neg (by omega)] at h6;by_cases e:k=j
   ·rw [if_pos e] at h6;cases h6;exact ltP_sto.asym hc
   ·rw [if_neg e] at h6;exact hq k x v (by omega) h4 hx h6
  ·show (((j - 1:Nat):Int)).toNat < ((j:Nat):Int).toNat;simp;omega
  ·intro k l u v h3 h4 h5 h6 h7;by_cases e:k=j
   ·subst e;exact hq l u v h4 (by omega) h6 h7
   ·by_cases e':l=j
    ·subst e';rw [hx] at h7;cases h7;by_cases e2:k=l - 1
     ·subst e2;rw [hy] at h6;cases h6;exact hc
     ·exact ltP_sto.le_tr (hp k (l - 1) u y h3 (by omega) (by omega) e (by omega) h6 hy) hc
    ·exact hp k l u v h3 h4 (by omega) e e' h6 h7
 ·simp only [Qfy ha,cond_false,Bool.false_and];have e:j=a:=by omega
  subst e;refine Runs.call rfl (Runs.call rfl (Runs.call rfl (Runs.some ⟨hg,?_⟩)));intro k l u v h3 h4 h5 h6 h7;by_cases e:k=j
  ·subst e;exact hq l u v h4 (by omega) h6 h7
  ·exact hp k l u v h3 h4 (by omega) e (by omega) h6 h7
theorem Qtq {xs:List Na} {a b:Nat} (hab:a<=b) (hb:b<=xs.length) (hn:xs.length < 1073741824) :
  Runs (Qla xs a b) (fun ys=>Seg a b xs ys/\YY Xt ys a b):=by
 unfold Qla;refine Runs.bind ?_;rw [show w64 ((a:Int)+1)=((a+1:Nat):Int) by rw [Xz (by omega)];omega];refine Runs.mono (Q:=fun ys=>Seg a b xs ys/\YY Xt ys a b) (Runs.loop (fun s=>∃ (ys:List Na) (i:Nat),s=(ys,(i:Int))/\a < i/\(i<=b\/i=a+1)/\Seg a b xs ys/\YY Xt ys a i) (fun s=>b - s.2.toNat) ⟨xs,a+1,rfl,by omega,.inr rfl,.refl,fun k l x y h1 h2 h3=>by omega⟩ ?_) (fun ys h=>Runs.some h);rintro _ ⟨ys,i,rfl,h1,h2,hg,hs⟩;have hl:=hg.len;unfold Qxx;by_cases hi:i < b
 ·refine Runs.bif_t (ltn hi) (Runs.callR (QFp (by omega) (by omega) (by omega) hs) fun zs ⟨h3,h4⟩=>?_);rw [XO i (by omega)];exact Runs.some ⟨⟨zs,i+1,rfl,by omega,by omega,hg.trans (h3.mono (Nat.le_refl _) (by omega)),h4⟩,by show b - ((i+1:Nat):Int).toNat < b - ((i:Nat):Int).toNat;simp;omega⟩
 ·refine Runs.bif_f (Qfy hi) (Runs.some ⟨hg,fun k l x y h3 h4 h5=>hs k l x y h3 h4 (by omega)⟩)
theorem Qxm {xs:List Na} {a lo hi:Nat} (hl:a+hi<=xs.length) (hn:xs.length < 1073741824) (hlo:lo < 1073741824) (h:Heap Xt xs a (lo+1) hi) :
    Runs (Qgx xs lo hi a) (fun ys=>Seg a (a+hi) xs ys/\Heap Xt ys a lo hi):=by
  unfold Qgx;refine Runs.bind ?_;refine Runs.mono (Q:=fun o=>∃ ys,(o=.inl ys\/o=.inr ys)/\Seg a (a+hi) xs ys/\Heap Xt ys a lo hi) (Runs.loop (fun s=>∃ (ys:List Na) (m:Nat),s=(ys,(m:Int))/\lo<=m/\(m < hi\/m=lo)/\Seg a (a+hi) xs ys/\HeapBut Xt ys a lo hi m) (fun s=>hi - s.2.toNat) ⟨xs,lo,rfl,Nat.le_refl _,.inr rfl,.refl,h.but⟩ ?_) (fun o ⟨ys,ho,hq⟩=>by rcases ho with rfl | rfl<;>exact Runs.some hq);rintro _ ⟨ys,m,rfl,h1,h2,hg,hb⟩;have hl':=hg.len;unfold Qyd;have hm8:m < 1073741824:=by omega
  have e1:w64 (w64 (2 * (m:Int))+1)=((2 * m+1:Nat):Int):=by rw [Xz (x:=2 * (m:Int)) (by omega),Xz (by omega)];omega
  have e2:w64 (((2 * m+1:Nat):Int)+1)=((2 * m+2:Nat):Int):=by rw [Xz (by omega)];omega
  have eA:∀ k:Nat,k < 2147483649->w64 ((a:Int)+(k:Int))=((a+k:Nat):Int):=fun k hk=>by rw [Xz (by omega)];omega
  have eB:w64 (((a+(2 * m+1):Nat):Int)+1)=((a+(2 * m+2):Nat):Int):=by rw [Xz (by omega)];omega
  simp only [e1,e2];refine Runs.bif (fun hc=>Runs.some ⟨ys,.inr rfl,hg,hb.leaf (by simp at hc;omega)⟩) (fun hc=>?_);have hc:2 * m+1 < hi:=by simp at hc;omega
  rw [eA (2 * m+1) (by omega),eA m (by omega),eB];obtain ⟨x,hx⟩:=hg.get (k:=a+m) (by omega);obtain ⟨u,hu⟩:=hg.get (k:=a+(2 * m+1)) (by omega)
  -- the greater child
  have key : ∃ (k : Nat) (z : Na), (k = 2 * m + 1 \/ k = 2 * m + 2) /\ k < hi /\ ys[a + k]? = some z /\ (∀ c y, (c = 2 * m + 1 \/ c = 2 * m + 2) -> c < hi -> ys[a + c]? = some y -> Xt z y = false) /\
      ∀ {β:Type} (f:Int->Option β),(Option.bind ((bif (decide (((2 * m+2:Nat):Int) < (hi:Int))) then idx ys ((a+(2 * m+1):Nat):Int) else some default)) fun el857=>(Option.bind ((bif (decide (((2 * m+2:Nat):Int) < (hi:Int))) then idx ys ((a+(2 * m+2):Nat):Int) else some default)) fun el862=>(Option.bind (bif (decide (((2 * m+2:Nat):Int) < (hi:Int))) then Y6 el857 el862 else some default) fun r867=>(Option.bind (bif ((decide (((2 * m+2:Nat):Int) < (hi:Int)))&&(decide (r867 < 0))) then some ((2 * m+2:Nat):Int) else some ((2 * m+1:Nat):Int)) f))))=f (k:Int):=by
    by_cases h3:2 * m+2 < hi
    · obtain ⟨v,hv⟩:=hg.get (k:=a+(2 * m+2)) (by omega);cases hlt:Xt u v with
      | true =>
        refine ⟨2 * m+2,v,.inr rfl,h3,hv,fun c y hc2 h4 h5=>?_,fun f=>?_⟩
        · rcases hc2 with rfl | rfl
          · rw [hu] at h5;cases h5;exact ltP_sto.asym hlt
          · rw [hv] at h5;cases h5;exact ltP_sto.irr _
        · simp only [ltn h3,cond_true,Bool.true_and,Xw?,hu,hv,QE,Qaq,Qap,hlt]
      | false =>
        refine ⟨2 * m+1,u,.inl rfl,by omega,hu,fun c y hc2 h4 h5=>?_,fun f=>?_⟩
        · rcases hc2 with rfl | rfl
          · rw [hu] at h5;cases h5;exact ltP_sto.irr _
          · rw [hv] at h5;cases h5;exact hlt
        · simp only [ltn h3,cond_true,Bool.true_and,Xw?,hu,hv,QE,Qaq,Qap,hlt,cond_false]
    · refine ⟨2 * m+1,u,.inl rfl,by omega,hu,fun c y hc2 h4 h5=>?_,fun f=>?_⟩
      · rcases hc2 with rfl | rfl
        · rw [hu] at h5;cases h5;exact ltP_sto.irr _
        · omega
      · simp only [Qfy h3,cond_false,Bool.false_and,QE]
  obtain ⟨k,z,hk,hkh,hz,hmax,hf⟩:=key;rw [hf];rw [eA k (by omega)];refine Runs.call (Xw?.trans hx) (Runs.call (Xw?.trans hz) (Runs.call (Qaq _ _) ?_));rw [Qap];refine Runs.bif (fun hc=>Runs.some ⟨ys,.inl rfl,hg,hb.done ltP_sto hx (by simpa using hc) hmax⟩) (fun hc=>Qai rfl rfl hx hz (Runs.some ⟨⟨_,k,rfl,by omega,.inl hkh,hg.trans (Seg.swap hx hz (by omega) (by omega) (by omega) (by omega)),hb.down ltP_sto h1 hk hkh hx hz (by simpa using hc) hmax⟩,?_⟩));show hi - ((k:Nat):Int).toNat < hi - ((m:Nat):Int).toNat;simp;omega
theorem QFl {xs:List Na} {a b:Nat} (hab:a < b) (hb:b<=xs.length) (hn:xs.length < 1073741824) :
    Runs (Qkz xs a b) (fun ys=>Seg a b xs ys/\YY Xt ys a b):=by
  unfold Qkz;have e0:w64 ((b:Int) - (a:Int))=((b - a:Nat):Int):=by rw [Xz (by omega)];omega
  have e1:w64 (((b - a:Nat):Int) - 1)=((b - a - 1:Nat):Int):=by rw [Xz (by omega)];omega
  have e2:w64 (Int.tdiv ((b - a - 1:Nat):Int) 2)=(((b - a - 1) / 2:Nat):Int):=by rw [Int.tdiv_eq_ediv_of_nonneg (by omega),Xz (by omega)];omega
  rw [e0,e1,e2];refine Runs.callR (R:=fun ys=>Seg a b xs ys/\Heap Xt ys a 0 (b - a)) ?_ (fun ys ⟨hg,hh⟩=>?_)
  · refine Runs.loop (fun s=>∃ (ys:List Na) (i:Nat),s=(ys,(i:Int) - 1)/\i < b - a+1/\Seg a b xs ys/\Heap Xt ys a i (b - a)) (fun s=>(s.2+1).toNat) ⟨xs,(b - a - 1) / 2+1,by simp,by omega,.refl,fun r c x y h1 h2 h3=>by omega⟩ ?_;rintro _ ⟨ys,i,rfl,h1,hg,hh⟩;unfold Qxv;rcases Nat.eq_zero_or_pos i with hi | hi
    · subst hi;refine Runs.bif_f (by simp) (Runs.some ⟨hg,hh⟩)
    · refine Runs.bif_t (by simp;omega) ?_;rw [show ((i:Int) - 1)=((i - 1:Nat):Int) by omega,e0];refine Runs.callR (Qxm (a:=a) (lo:=i - 1) (hi:=b - a) (by rw [hg.len];omega) (by rw [hg.len];omega) (by omega) (by rw [show i - 1+1=i by omega];exact hh)) (fun zs ⟨hg2,hh2⟩=>Runs.some ⟨⟨zs,i - 1,?_,by omega,hg.trans (hg2.mono (Nat.le_refl _) (by omega)),hh2⟩,?_⟩)
      · rw [Xz (by omega)]
      · show (w64 (((i - 1:Nat):Int) - 1)+1).toNat < (((i - 1:Nat):Int)+1).toNat;rw [Xz (by omega)];omega
  · refine Runs.bind ?_;refine Runs.mono (Q:=fun ys=>Seg a b xs ys/\YY Xt ys a b) (Runs.loop (fun s=>∃ (ys:List Na) (i:Nat),s=(ys,(i:Int) - 1)/\i<=b - a/\Seg a b xs ys/\Heap Xt ys a 0 i/\Mid Xt ys a a (a+i) b) (fun s=>(s.2+1).toNat) ⟨ys,b - a,by rw [show ((b - a - 1:Nat):Int)=((b - a:Nat):Int) - 1 by omega],Nat.le_refl _,hg,hh,by rw [show a+(b - a)=b by omega];exact Mid.all⟩ ?_) (fun ys h=>Runs.some h);rintro _ ⟨ys,i,rfl,h1,hg,hh,hm⟩;have hl:=hg.len;unfold Qxw;rcases Nat.eq_zero_or_pos i with hi | hi
    · subst hi;refine Runs.bif_f (by simp) (Runs.some ⟨hg,hm.srt (fun i j x y h1 h2 h3=>by omega)⟩)
    · refine Runs.bif_t (by simp;omega) ?_;rw [show ((i:Int) - 1)=((i - 1:Nat):Int) by omega,show w64 ((a:Int)+((i - 1:Nat):Int))=((a+(i - 1):Nat):Int) by rw [Xz (by omega)];omega];obtain ⟨x,hx⟩:=hg.get (k:=a) (by omega);obtain ⟨y,hy⟩:=hg.get (k:=a+(i - 1)) (by omega);have hmx:=hh.max ltP_sto hx (by omega);refine Qai rfl rfl hx hy ?_;rw [Int.toNat_natCast,Int.toNat_natCast];have hsw:Seg a (a+i) ys ((ys.set a y).set (a+(i - 1)) x):=Seg.swap hx hy (by omega) (by omega) (by omega) (by omega);have hhp:Heap Xt ((ys.set a y).set (a+(i - 1)) x) a (0+1) (i - 1):=fun r c u v h2 h3 h4 h5 h6=>by
        rw [Zx hx hy,if_neg (by omega),if_neg (by omega)] at h5 h6;exact hh r c u v (Nat.zero_le _) h3 (by omega) h5 h6
      refine Runs.callR (Qxm (a:=a) (lo:=0) (hi:=i - 1) (by simp;omega) (by simp;omega) (by omega) hhp) (fun zs ⟨hg2,hh2⟩=>Runs.some ⟨⟨zs,i - 1,?_,by omega,(hg.trans (hsw.mono (Nat.le_refl _) (by omega))).trans (hg2.mono (Nat.le_refl _) (by omega)),hh2,?_⟩,?_⟩)
      · rw [Xz (by omega)]
      · have hm2 : Mid Xt ((ys.set a y).set (a + (i - 1)) x) a a (a + (i - 1)) b := fun k l u v h2 h3 h4 h5 h6 h7 => by
          have hm3:=hm.seg hsw (Nat.le_refl _) (by omega);by_cases hlt:l < a+i
          · have:l=a+(i - 1):=by omega
            subst this;rw [Zx hx hy,if_pos rfl] at h7;cases h7;rw [Zx hx hy,if_neg (by omega)] at h6;by_cases e:k=a
            · rw [if_pos e] at h6;cases h6;exact hmx (i - 1) _ (by omega) hy
            · rw [if_neg e] at h6;exact hmx (k - a) u (by omega) (by rw [show a+(k - a)=k by omega];exact h6)
          · exact hm3 k l u v h2 h3 h4 (by omega) h6 h7
        exact hm2.seg hg2 (Nat.le_refl _) (by omega)
      · show (w64 (((i - 1:Nat):Int) - 1)+1).toNat < (((i - 1:Nat):Int)+1).toNat;rw [Xz (by omega)];omega
theorem Qzg {ys:List Na} {a i j:Nat} {v:Na} (hv:ys[a]?=some v) (hi:i<=j+1) (hj:j < ys.length) (hn:ys.length < 1073741824) :
  Runs (loop (Qgv (a:Int) ys (j:Int)) (i:Int)) (fun r=>∃ i':Nat,r=(i':Int)/\i<=i'/\i'<=j+1/\(∀ k x,i<=k->k < i'->ys[k]?=some x->Xt x v=true)/\(i'<=j->∀ x,ys[i']?=some x->Xt x v=false)):=by
 refine Runs.loop (fun s=>∃ k:Nat,s=(k:Int)/\i<=k/\k<=j+1/\∀ l x,i<=l->l < k->ys[l]?=some x->Xt x v=true) (fun s=>j+1 - s.toNat) ⟨i,rfl,Nat.le_refl _,hi,fun l x h1 h2=>by omega⟩ ?_;rintro _ ⟨k,rfl,h1,h2,h3⟩;unfold Qgv;by_cases hk:k<=j
 ·have hx:=List.getElem?_eq_getElem (l:=ys) (i:=k) (by omega);simp only [show decide ((k:Int)<=(j:Int))=true by simp;omega,cond_true,Bool.true_and];refine Runs.call (Xw?.trans hx) (Runs.call (Xw?.trans hv) (Runs.call (Qaq _ _) ?_));rw [Qap,XO k (by omega)];refine Runs.bif (fun hc=>Runs.some ⟨⟨k+1,rfl,by omega,by omega,fun l x h4 h5 h6=>?_⟩,by show j+1 - ((k+1:Nat):Int).toNat < j+1 - ((k:Nat):Int).toNat;simp;omega⟩) (fun hc=>Runs.some ⟨k,rfl,h1,h2,h3,fun _ x hx'=>by rw [hx] at hx';cases hx';exact hc⟩);rcases Nat.lt_or_ge l k with e | e
  ·exact h3 l x h4 e h6
  ·have:l=k:=by omega
   subst this;rw [hx] at h6;cases h6;exact hc
 ·simp only [show decide ((k:Int)<=(j:Int))=false by simp;omega,cond_false,Bool.false_and];exact Runs.call rfl (Runs.call rfl (Runs.call rfl (Runs.some ⟨k,rfl,h1,h2,h3,fun h=>absurd h hk⟩)))
theorem Qsx {ys:List Na} {a i j:Nat} {v:Na} (hv:ys[a]?=some v) (hi0:1<=i) (hi:i<=j+1) (hj:j < ys.length) (hn:ys.length < 1073741824) :
  Runs (loop (Qgw (a:Int) ys (i:Int)) (j:Int)) (fun r=>∃ j':Nat,r=(j':Int)/\j'<=j/\i<=j'+1/\(∀ k x,j' < k->k<=j->ys[k]?=some x->Xt x v=false)/\(i<=j'->∀ x,ys[j']?=some x->Xt x v=true)):=by
 refine Runs.loop (fun s=>∃ k:Nat,s=(k:Int)/\k<=j/\i<=k+1/\∀ l x,k < l->l<=j->ys[l]?=some x->Xt x v=false) (fun s=>s.toNat) ⟨j,rfl,Nat.le_refl _,hi,fun l x h1 h2=>by omega⟩ ?_;rintro _ ⟨k,rfl,h1,h2,h3⟩;unfold Qgw;by_cases hk:i<=k
 ·have hx:=List.getElem?_eq_getElem (l:=ys) (i:=k) (by omega);simp only [show decide ((i:Int)<=(k:Int))=true by simp;omega,cond_true,Bool.true_and];refine Runs.call (Xw?.trans hx) (Runs.call (Xw?.trans hv) (Runs.call (Qaq _ _) ?_));rw [Qap,show w64 ((k:Int) - 1)=((k - 1:Nat):Int) by rw [Xz (by omega)];omega];refine Runs.bif (fun hc=>Runs.some ⟨⟨k - 1,rfl,by omega,by omega,fun l x h4 h5 h6=>?_⟩,by show ((k - 1:Nat):Int).toNat < ((k:Nat):Int).toNat;simp;omega⟩) (fun hc=>Runs.some ⟨k,rfl,h1,h2,h3,fun _ x hx'=>by rw [hx] at hx';cases hx';simpa using hc⟩);rcases Nat.lt_or_ge k l with e | e
  ·exact h3 l x e h5 h6
  ·have:l=k:=by omega
   subst this;rw [hx] at h6;cases h6;simpa using hc
 ·simp only [show decide ((i:Int)<=(k:Int))=false by simp;omega,cond_false,Bool.false_and];exact Runs.call rfl (Runs.call rfl (Runs.call rfl (Runs.some ⟨k,rfl,h1,h2,h3,fun h=>absurd h hk⟩)))
structure Parting (xs ys:List Na) (a b:Nat) (v:Na) (i j:Nat):Prop where
 g:Seg a b xs ys
 pv:ys[a]?=some v
 ai:a < i
 jb:j < b
 ij:i<=j+1
 lo:∀ k x,a < k->k < i->ys[k]?=some x->Xt x v=true
 hi:∀ k x,j < k->k < b->ys[k]?=some x->Xt x v=false
theorem Parting.swap {xs ys:List Na} {a b i j:Nat} {v x y:Na} (h:Parting xs ys a b v i j) (hij:i<=j) (hx:ys[i]?=some x) (hy:ys[j]?=some y) (h1:Xt x v=false) (h2:Xt y v=true):Parting xs ((ys.set i y).set j x) a b v (i+1) (j - 1):=by
 have hne:i≠j:=fun e=>by subst e;rw [hx] at hy;cases hy;rw [h1] at h2;cases h2
 obtain ⟨g,hv,ai,jb,ij,lo,hi⟩:=h;refine ⟨g.trans (Seg.swap hx hy (by omega) (by omega) (by omega) (by omega)),by rw [Zx hx hy,if_neg (by omega),if_neg (by omega)];exact hv,by omega,by omega,by omega,fun k z h3 h4 h5=>?_,fun k z h3 h4 h5=>?_⟩
 ·rw [Zx hx hy,if_neg (by omega)] at h5;by_cases e:k=i
  ·rw [if_pos e] at h5;cases h5;exact h2
  ·rw [if_neg e] at h5;exact lo k z h3 (by omega) h5
 ·rw [Zx hx hy] at h5;by_cases e:k=j
  ·rw [if_pos e] at h5;cases h5;exact h1
  ·rw [if_neg e,if_neg (by omega)] at h5;exact hi k z (by omega) h4 h5
theorem Parting.fin {xs ys:List Na} {a b i j:Nat} {v y:Na} (h:Parting xs ys a b v i j) (hij:j < i) (hy:ys[j]?=some y):Seg a b xs ((ys.set j v).set a y)/\Part Xt ((ys.set j v).set a y) a j b v/\a<=j/\j < b:=by
 obtain ⟨g,hv,ai,jb,ij,lo,hi⟩:=h;refine ⟨g.trans (Seg.swap hy hv (by omega) (by omega) (by omega) (by omega)),⟨?_,fun k x h1 h2 h3=>?_,fun k x h1 h2 h3=>?_⟩,by omega,jb⟩
 ·rw [Zx hy hv];by_cases e:j=a
  ·rw [if_pos e];subst e;rw [hv] at hy;exact hy.symm
  ·rw [if_neg e,if_pos rfl]
 ·rw [Zx hy hv] at h3;by_cases e:k=a
  ·rw [if_pos e] at h3;cases h3;exact lo j _ (by omega) (by omega) hy
  ·rw [if_neg e,if_neg (by omega)] at h3;exact lo k x (by omega) (by omega) h3
 ·rw [Zx hy hv,if_neg (by omega),if_neg (by omega)] at h3;exact hi k x h1 h2 h3
theorem QMg {xs:List Na} {a b p:Nat} (hap:a<=p) (hpb:p < b) (hb:b<=xs.length) (hn:xs.length < 1073741824) :
    Runs (Qlc xs a b p) (fun r=>Seg a b xs r.2/\∃ (m:Nat) (v:Na),r.1.1=m/\a<=m/\m < b/\Part Xt r.2 a m b v):=by
  unfold Qlc;have hx:=List.getElem?_eq_getElem (l:=xs) (i:=a) (by omega);have hv:=List.getElem?_eq_getElem (l:=xs) (i:=p) (by omega);generalize xs[a]=x at hx;generalize xs[p]=v at hv;refine Qai rfl rfl hx hv ?_;rw [Int.toNat_natCast,Int.toNat_natCast];have s0:∀ i:Int,Qqj v x xs p b a i=Qgv a ((xs.set a v).set p x) (w64 ((b:Int) - 1)) i:=fun _=>rfl
  have s1:∀ i j:Int,Qqk v x xs p a i j=Qgw a ((xs.set a v).set p x) i j:=fun _ _=>rfl
  rw [show Qqj v x xs p b a=Qgv a ((xs.set a v).set p x) (w64 ((b:Int) - 1)) from funext s0];have s1':∀ i:Int,Qqk v x xs p a i=Qgw a ((xs.set a v).set p x) i:=fun i=>funext (s1 i)
  simp only [s1'];have hg:Seg a b xs ((xs.set a v).set p x):=Seg.swap hx hv (by omega) (by omega) hap hpb;have hva:((xs.set a v).set p x)[a]?=some v:=by
    rw [Zx hx hv];by_cases e:a=p
    · rw [if_pos e];subst e;rw [hx] at hv;exact hv
    · rw [if_neg e,if_pos rfl]
  generalize ((xs.set a v).set p x)=ys at hg hva;have hl:=hg.len;have e1:w64 ((a:Int)+1)=((a+1:Nat):Int):=XO a (by omega);have e2:w64 ((b:Int) - 1)=((b - 1:Nat):Int):=by rw [Xz (by omega)];omega
  rw [e1,e2];refine Runs.callR (Qzg hva (by omega) (by omega) (by omega)) ?_;rintro _ ⟨i,rfl,i1,i2,i3,i4⟩;refine Runs.callR (Qsx hva (by omega) i2 (by omega) (by omega)) ?_;rintro _ ⟨j,rfl,j1,j2,j3,j4⟩;have hP:Parting xs ys a b v i j:=⟨hg,hva,by omega,by omega,j2,fun k z h1 h2=>i3 k z (by omega) h2,fun k z h1 h2=>j3 k z h1 (by omega)⟩;have hy:=List.getElem?_eq_getElem (l:=ys) (i:=j) (by omega);refine Runs.bif (fun hc=>Qai rfl rfl hy hva ?_) (fun hc=>?_)
  · obtain ⟨h1,h2,h3,h4⟩:=hP.fin (by simpa using hc) hy;exact Runs.some ⟨h1,j,v,rfl,h3,h4,h2⟩
  · have hij:i<=j:=by simp at hc;omega
    have hx:=List.getElem?_eq_getElem (l:=ys) (i:=i) (by omega);refine Qai rfl rfl hx hy ?_;rw [Int.toNat_natCast,Int.toNat_natCast,XO i (by omega),show w64 ((j:Int) - 1)=((j - 1:Nat):Int) by rw [Xz (by omega)];omega];have hP2:=hP.swap hij hx hy (i4 (by omega) _ hx) (j4 hij _ hy);refine Runs.callR (R:=fun r=>∃ (zs:List Na) (i j:Nat),r=(zs,(j:Int))/\j < i/\Parting xs zs a b v i j) (Runs.loop (fun s=>∃ (zs:List Na) (i j:Nat),s=(zs,(i:Int),(j:Int))/\Parting xs zs a b v i j) (fun s=>b+1 - s.2.1.toNat) ⟨_,i+1,j - 1,rfl,hP2⟩ ?_) ?_
    · rintro _ ⟨zs,i,j,rfl,hP⟩;have hl:=hP.g.len;have:=hP.ai;have:=hP.jb;have:=hP.ij;unfold Qya;refine Runs.callR (Qzg hP.pv hP.ij (by omega) (by omega)) ?_;rintro _ ⟨i',rfl,i1,i2,i3,i4⟩;refine Runs.callR (Qsx hP.pv (by omega) i2 (by omega) (by omega)) ?_;rintro _ ⟨j',rfl,j1,j2,j3,j4⟩;have hP':Parting xs zs a b v i' j':=⟨hP.g,hP.pv,by omega,by omega,j2,fun k z h1 h2 h3=>by
        rcases Nat.lt_or_ge k i with e | e
        · exact hP.lo k z h1 e h3
        · exact i3 k z e h2 h3,fun k z h1 h2 h3=>by
        rcases Nat.lt_or_ge j k with e | e
        · exact hP.hi k z e h2 h3
        · exact j3 k z h1 e h3⟩
      refine Runs.bif (fun hc=>Runs.some ⟨zs,i',j',rfl,by simpa using hc,hP'⟩) (fun hc=>?_);have hij:i'<=j':=by simp at hc;omega
      have hx:=List.getElem?_eq_getElem (l:=zs) (i:=i') (by omega);have hy:=List.getElem?_eq_getElem (l:=zs) (i:=j') (by omega);refine Qai rfl rfl hx hy (Runs.some ⟨⟨_,i'+1,j' - 1,?_,hP'.swap hij hx hy (i4 (by omega) _ hx) (j4 hij _ hy)⟩,?_⟩)
      · rw [Int.toNat_natCast,Int.toNat_natCast,XO i' (by omega),show w64 ((j':Int) - 1)=((j' - 1:Nat):Int) by rw [Xz (by omega)];omega]
      · show b+1 - (w64 ((i':Int)+1)).toNat < b+1 - ((i:Nat):Int).toNat;rw [XO i' (by omega)];simp;omega
    · rintro _ ⟨zs,i,j,rfl,hij,hP⟩;have hl:=hP.g.len;have:=hP.jb;have hy:=List.getElem?_eq_getElem (l:=zs) (i:=j) (by omega);refine Qai rfl rfl hy hP.pv ?_;obtain ⟨h1,h2,h3,h4⟩:=hP.fin hij hy;exact Runs.some ⟨h1,j,v,rfl,h3,h4,h2⟩
theorem QNm {xs:List Na} {a b:Nat} (hab:a < b) (hb:b<=xs.length) (hn:xs.length < 1073741824):Runs (Qld xs a b) (Seg a b xs):=by
 unfold Qld;rw [show w64 ((b:Int) - 1)=((b - 1:Nat):Int) by rw [Xz (by omega)];omega];refine Runs.bind (Runs.mono (Q:=Seg a b xs) (Runs.loop (fun s=>∃ (ys:List Na) (i j:Nat),s=(ys,(i:Int),(j:Int))/\a<=i/\j < b/\Seg a b xs ys) (fun s=>s.2.2.toNat) ⟨xs,a,b - 1,rfl,Nat.le_refl _,by omega,.refl⟩ ?_) (fun _ h=>Runs.some h));rintro _ ⟨ys,i,j,rfl,h1,h2,hg⟩;have hl:=hg.len;unfold Qyb;by_cases hij:i < j
 ·have hx:=List.getElem?_eq_getElem (l:=ys) (i:=i) (by omega);have hy:=List.getElem?_eq_getElem (l:=ys) (i:=j) (by omega);refine Runs.bif_t (ltn hij) (Qai rfl rfl hx hy (Runs.some ⟨⟨_,i+1,j - 1,?_,by omega,by omega,hg.trans (Seg.swap hx hy (by omega) (by omega) (by omega) (by omega))⟩,?_⟩))
  ·rw [Int.toNat_natCast,Int.toNat_natCast,XO i (by omega),show w64 ((j:Int) - 1)=((j - 1:Nat):Int) by rw [Xz (by omega)];omega]
  ·show (w64 ((j:Int) - 1)).toNat < ((j:Nat):Int).toNat;rw [Xz (by omega)];simp;omega
 ·exact Runs.bif_f (Qfy hij) (Runs.some hg)
theorem Qrw {ys:List Na} {a i:Nat} (hi:i<=ys.length) (h:∀ k x y,a < k->k < i->ys[k]?=some x->ys[k - 1]?=some y->Xt x y=false):YY Xt ys a i:=by
 intro k l x y h1 h2 h3 h4 h5;obtain ⟨d,rfl⟩:∃ d,l=k+1+d:=⟨l - (k+1),by omega⟩;clear h2
 induction d generalizing y with
 | zero=>exact h (k+1) y x (by omega) h3 h5 h4
 | succ d ih =>
  have hz:=List.getElem?_eq_getElem (l:=ys) (i:=k+1+d) (by omega);exact ltP_sto.le_tr (ih _ (by omega) hz) (h (k+1+(d+1)) y _ (by omega) h3 h5 hz)
theorem QMi {xs:List Na} {a b:Nat} (hab:a < b) (hb:b<=xs.length) (hn:xs.length < 1073741824) (h50:b - a < 50) :
  Runs (Qlb xs a b) (fun r=>r.2=xs/\(r.1=true->YY Xt xs a b)):=by
 unfold Qlb;refine Runs.callR (R:=fun o=>∃ r:Bool×List Na,o=.inl r/\r.2=xs/\(r.1=true->YY Xt xs a b)) ?_ (fun o ⟨r,ho,h⟩=>by subst ho;exact Runs.jl h);refine Runs.loop (fun _:Unit=>True) (fun _=>0) trivial ?_;rintro ⟨⟩ _;unfold Qxz;rw [XO a (by omega)];refine Runs.bif_t rfl ?_;refine Runs.callR (R:=fun i=>∃ k:Nat,i=(k:Int)/\k<=b/\YY Xt xs a k) ?_ ?_
 ·refine Runs.loop (fun s=>∃ k:Nat,s=(k:Int)/\a < k/\k<=b/\∀ l x y,a < l->l < k->xs[l]?=some x->xs[l - 1]?=some y->Xt x y=false) (fun s=>b - s.toNat) ⟨a+1,rfl,by omega,by omega,fun l x y h1 h2=>by omega⟩ ?_;rintro _ ⟨k,rfl,h1,h2,h3⟩;unfold Qxy;by_cases hk:k < b
  ·simp only [ltn hk,cond_true,Bool.true_and,show w64 ((k:Int) - 1)=((k - 1:Nat):Int) by rw [Xz (by omega)];omega];have hx:=List.getElem?_eq_getElem (l:=xs) (i:=k) (by omega);have hy:=List.getElem?_eq_getElem (l:=xs) (i:=k - 1) (by omega);refine Runs.call (Xw?.trans hx) (Runs.call (Xw?.trans hy) (Runs.call (Qaq _ _) ?_));rw [Qap,XO k (by omega)];refine Runs.bif (fun hc=>Runs.some ⟨⟨k+1,rfl,by omega,by omega,fun l x y h4 h5 h6 h7=>?_⟩,by show b - ((k+1:Nat):Int).toNat < b - ((k:Nat):Int).toNat;simp;omega⟩) (fun hc=>Runs.some ⟨k,rfl,h2,Qrw (by omega) h3⟩);rcases Nat.lt_or_ge l k with e | e
   ·exact h3 l x y h4 e h6 h7
   ·have:l=k:=by omega
    subst this;rw [hx] at h6;cases h6;rw [hy] at h7;cases h7;simpa using hc
  ·simp only [Qfy hk,cond_false,Bool.false_and];exact Runs.call rfl (Runs.call rfl (Runs.call rfl (Runs.some ⟨k,rfl,h2,Qrw (by omega) h3⟩)))
 ·rintro _ ⟨k,rfl,hk,hs⟩;refine Runs.bif (fun hc=>Runs.some ⟨(true,xs),rfl,rfl,fun _=>?_⟩) (fun hc=>Runs.bif_t (by rw [Xz (by omega)];simp;omega) (Runs.some ⟨(false,xs),rfl,rfl,fun h=>by cases h⟩));have:k=b:=by simp at hc;omega
  subst this;exact hs
theorem QSp {n:Nat} (h:n < 2 ^ 64):IntKind.wrap .u64 (n:Int)=(n:Int):=by
 unfold IntKind.wrap;simp [IntKind.signed,IntKind.bits];omega
theorem QAw (x:Int) {m:Nat} (hm:m < 1073741824):∃ k:Nat,Qam .u64 x (m:Int)=(k:Int)/\k<=m:=by
 unfold Qam;refine ⟨_,QSp (BitVec.isLt _),?_⟩;rw [BitVec.toNat_and];have:(BitVec.ofInt 64 (m:Int)).toNat=m:=by simp;omega
 show _ &&& (BitVec.ofInt 64 (m:Int)).toNat<=m;rw [this];exact Nat.and_le_right
theorem QMo:∀ l:Fin 50,(Qgu ((l.val:Nat):Int)).any (fun (q:Int)=>decide (1<=q/\(q<=((2 * l.val:Nat):Int)\/l.val=0)))=true:=by decide +kernel
theorem QMp {l:Nat} (h1:1<=l) (h:l < 50):∃ m:Nat,Qgu (l:Int)=some ((m+1:Nat):Int)/\m < 2 * l:=by
 have:=QMo ⟨l,h⟩;cases hq:Qgu ((l:Nat):Int) with
 | none=>rw [hq] at this;cases this
 | some q =>
  rw [hq] at this;simp at this;exact ⟨(q - 1).toNat,by congr 1;omega,by omega⟩
theorem Qxl (x y:Int) (h:0<=y/\y<=64):∃ q,Qda .u64 x y=some q:=by unfold Qda;rw [if_pos (by simpa [IntKind.bits] using h)];exact ⟨_,rfl⟩
theorem QOr (x y:Int) (h:0<=y/\y<=64):∃ q,Qbv .u64 x y=some q:=by unfold Qbv;rw [if_pos (by simpa [IntKind.bits] using h)];exact ⟨_,rfl⟩
theorem QBn {xs:List Na} {a b:Nat} (h8:a+8<=b) (hb:b<=xs.length) (hn:xs.length < 1073741824) (h50:b - a < 50):Runs (Qkx xs a b) (Seg a b xs):=by
 unfold Qkx;have e0:w64 ((b:Int) - (a:Int))=((b - a:Nat):Int):=by rw [Xz (by omega)];omega
 rw [e0];refine Runs.bif_t (by simp;omega) ?_;obtain ⟨m,hm,hm2⟩:=QMp (l:=b - a) (by omega) h50;refine Runs.call hm ?_;have e1:w64 ((a:Int)+w64 (w64 (Int.tdiv ((b - a:Nat):Int) 4) * 2))=((a+(b - a) / 4 * 2:Nat):Int):=by
  rw [Int.tdiv_eq_ediv_of_nonneg (by omega),Xz (x:=((b - a:Nat):Int) / 4) (by omega),Xz (x:=((b - a:Nat):Int) / 4 * 2) (by omega),Xz (by omega)];omega
 rw [e1];refine Runs.bind (Runs.mono (Q:=Seg a b xs) (Runs.loop (fun s=>∃ (ys:List Na) (i:Nat) (r:Int),s=(ys,(i:Int),r)/\a<=i/\i<=a+(b - a) / 4 * 2+2/\Seg a b xs ys) (fun s=>a+(b - a) / 4 * 2+2 - s.2.1.toNat) ⟨xs,a+(b - a) / 4 * 2 - 1,_,by rw [show w64 (((a+(b - a) / 4 * 2:Nat):Int) - 1)=((a+(b - a) / 4 * 2 - 1:Nat):Int) by rw [Xz (by omega)];omega],by omega,by omega,.refl⟩ ?_) (fun _ h=>Runs.some h));rintro _ ⟨ys,i,r,rfl,h1,h2,hg⟩;have hl:=hg.len;unfold Qxu;simp only [e0,e1];rw [XO (a+(b - a) / 4 * 2) (by omega)];refine Runs.bif (fun hc=>?_) (fun hc=>Runs.some hg);have hc:i<=a+(b - a) / 4 * 2+1:=by simp at hc;omega
 obtain ⟨q1,hq1⟩:=Qxl r 13 (by omega);refine Runs.call hq1 ?_;obtain ⟨q2,hq2⟩:=QOr (X0 .u64 r q1) 7 (by omega);refine Runs.call hq2 ?_;obtain ⟨q3,hq3⟩:=Qxl (X0 .u64 (X0 .u64 r q1) q2) 17 (by omega);refine Runs.call hq3 ?_;have em:IntKind.wrap .u64 (((m+1:Nat):Int) - 1)=(m:Int):=by
  unfold IntKind.wrap;simp [IntKind.signed,IntKind.bits];omega
 rw [em];obtain ⟨k,hk,hk2⟩:=QAw (X0 .u64 (X0 .u64 (X0 .u64 r q1) q2) q3) (m:=m) (by omega);rw [hk,Xz (x:=(k:Int)) (by omega)];refine Runs.callR (R:=fun o=>∃ k:Nat,o=(k:Int)/\k < b - a) (Runs.bif (fun hc=>Runs.some ⟨k - (b - a),?_,by omega⟩) (fun hc=>Runs.some ⟨k,rfl,by simp at hc;omega⟩)) ?_
 ·simp at hc;rw [Xz (by omega)];omega
 rintro _ ⟨o,rfl,ho⟩;rw [show w64 ((a:Int)+(o:Int))=((a+o:Nat):Int) by rw [Xz (by omega)];omega];have hx:=List.getElem?_eq_getElem (l:=ys) (i:=i) (by omega);have hy:=List.getElem?_eq_getElem (l:=ys) (i:=a+o) (by omega);refine Qai rfl rfl hx hy (Runs.some ⟨⟨_,i+1,_,by rw [Int.toNat_natCast,Int.toNat_natCast,XO i (by omega)],by omega,by omega,hg.trans (Seg.swap hx hy (by omega) (by omega) (by omega) (by omega))⟩,?_⟩);show a+(b - a) / 4 * 2+2 - (w64 ((i:Int)+1)).toNat < a+(b - a) / 4 * 2+2 - ((i:Nat):Int).toNat;rw [XO i (by omega)];simp;omega
theorem QMj {xs:List Na} {a b:Nat} (h8:a+8<=b) (hb:b<=xs.length) (hn:xs.length < 1073741824) (h50:b - a < 50):Runs (Qky xs a b) (fun r=>r.2=xs/\∃ k:Nat,r.1.1=(k:Int)/\a<=k/\k < b):=by
 unfold Qky;have e0:w64 ((b:Int) - (a:Int))=((b - a:Nat):Int):=by rw [Xz (by omega)];omega
 have e4:w64 (Int.tdiv ((b - a:Nat):Int) 4)=(((b - a) / 4:Nat):Int):=by rw [Int.tdiv_eq_ediv_of_nonneg (by omega),Xz (by omega)];omega
 have ek1:w64 ((a:Int)+w64 ((((b - a) / 4:Nat):Int) * 1))=((a+(b - a) / 4 * 1:Nat):Int):=by rw [Xz (x:=(((b - a) / 4:Nat):Int) * 1) (by omega),Xz (by omega)];omega
 have ek2:w64 ((a:Int)+w64 ((((b - a) / 4:Nat):Int) * 2))=((a+(b - a) / 4 * 2:Nat):Int):=by rw [Xz (x:=(((b - a) / 4:Nat):Int) * 2) (by omega),Xz (by omega)];omega
 have ek3:w64 ((a:Int)+w64 ((((b - a) / 4:Nat):Int) * 3))=((a+(b - a) / 4 * 3:Nat):Int):=by rw [Xz (x:=(((b - a) / 4:Nat):Int) * 3) (by omega),Xz (by omega)];omega
 rw [e0,e4];refine Runs.callR (R:=fun r=>∃ k:Nat,r.1=(k:Int)/\a<=k/\k < b) (Runs.bif_t (by simp;omega) (Runs.bif_f (by simp;omega) ?_)) ?_
 ·have h1:=List.getElem?_eq_getElem (l:=xs) (i:=a+(b - a) / 4 * 1) (by omega);have h2:=List.getElem?_eq_getElem (l:=xs) (i:=a+(b - a) / 4 * 2) (by omega);have h3:=List.getElem?_eq_getElem (l:=xs) (i:=a+(b - a) / 4 * 3) (by omega);rw [ek1,ek2,ek3];have k1:a+(b - a) / 4 * 1 < b:=by omega
  have k2:a+(b - a) / 4 * 2 < b:=by omega
  have k3:a+(b - a) / 4 * 3 < b:=by omega
  have m1:a<=a+(b - a) / 4 * 1:=by omega
  have m2:a<=a+(b - a) / 4 * 2:=by omega
  have m3:a<=a+(b - a) / 4 * 3:=by omega
  simp only [Xw?,h1,h2,h3,QE,Qaq,Qap]
  repeat' refine Runs.bif (fun _=>?_) (fun _=>?_)
  all_goals first | exact Runs.some ⟨_,rfl,m1,k1⟩ | exact Runs.some ⟨_,rfl,m2,k2⟩ | exact Runs.some ⟨_,rfl,m3,k3⟩
 ·rintro ⟨r1,r2⟩ ⟨k,rfl,h1,h2⟩;refine Runs.bif (fun _=>Runs.some ⟨rfl,k,rfl,h1,h2⟩) (fun _=>Runs.bif (fun _=>Runs.some ⟨rfl,k,rfl,h1,h2⟩) (fun _=>Runs.some ⟨rfl,k,rfl,h1,h2⟩))
def Head (xs:List Na) (a b:Nat):Prop:=a=0\/∃ u,xs[a - 1]?=some u/\∀ k x,a<=k->k < b->xs[k]?=some x->Xt u x=true
theorem Head.seg {xs ys:List Na} {a b:Nat} (h:Head xs a b) (g:Seg a b xs ys):Head ys a b:=by
 rcases h with h | ⟨u,h1,h2⟩
 ·exact .inl h
 ·by_cases e:a=0
  ·exact .inl e
  exact .inr ⟨u,by rw [g.out (a - 1) (by omega)];exact h1,g.all h2⟩
theorem Head.cut {xs:List Na} {a b b':Nat} (h:Head xs a b) (hb:b'<=b):Head xs a b':=by
 rcases h with h | ⟨u,h1,h2⟩
 ·exact .inl h
 ·exact .inr ⟨u,h1,fun k x h3 h4=>h2 k x h3 (by omega)⟩
theorem QLk {xs:List Na} (h:xs.Nodup) {i j:Nat} {x:Na} (hi:xs[i]?=some x) (hj:xs[j]?=some x):i=j:=by
 obtain ⟨h1,e1⟩:=List.getElem?_eq_some_iff.1 hi;obtain ⟨h2,e2⟩:=List.getElem?_eq_some_iff.1 hj;have hp:=List.pairwise_iff_getElem.1 h;rcases Nat.lt_trichotomy i j with e | e | e
 ·exact absurd (e1.trans e2.symm) (hp i j h1 h2 e)
 ·exact e
 ·exact absurd (e2.trans e1.symm) (hp j i h2 h1 e)
theorem Part.head {xs:List Na} {a m b:Nat} {v:Na} (p:Part Xt xs a m b v) (hn:xs.Nodup):Head xs (m+1) b :=
 .inr ⟨v,p.at_,fun k x h1 h2 h3=>by
  have h4:=p.hi k x (by omega) h2 h3;cases h5:Xt v x with
  | true=>rfl
  | false =>
   have:=ltP_sto.tot x v h4 h5;subst this;have:=QLk hn p.at_ h3;omega⟩
theorem QMh:∀ (fl:Nat) {xs:List Na} {a b:Nat} {lim:Int},a<=b->b<=xs.length->xs.length < 1073741824->b - a < 50->b - a < 13 * 2 ^ fl->xs.Nodup->0<=lim->lim < 1000->Head xs a b ->
  Runs (Qax (fl+1) xs a b lim) (fun ys=>Seg a b xs ys/\YY Xt ys a b):=by
 intro fl
 induction fl with
 | zero =>
  intro xs a b lim hab hb hn h50 hfl hnd hl0 hl1 hh;show Runs (Qel (Qax 0) xs a b lim) _;unfold Qel;refine Runs.callR (R:=fun o=>∃ ys,o=.inl ys/\Seg a b xs ys/\YY Xt ys a b) (Runs.loop (fun s=>s=(xs,(a:Int),(b:Int),lim,true,true)) (fun _=>0) rfl ?_) (fun o ⟨ys,ho,h⟩=>by subst ho;exact Runs.jl h);rintro _ rfl;unfold Qql;refine Runs.bif_t (by rw [Xz (by omega)];simp;omega) (Runs.callR (Qtq hab hb hn) fun ys h=>Runs.some ⟨ys,rfl,h⟩)
 | succ fl ih =>
  intro xs a b lim hab hb hn h50 hfl hnd hl0 hl1 hh;show Runs (Qel (Qax (fl+1)) xs a b lim) _;unfold Qel;refine Runs.callR (R:=fun o=>∃ ys,o=.inl ys/\Seg a b xs ys/\YY Xt ys a b) (Runs.loop (fun s=>∃ (ys:List Na) (c d:Nat) (l:Int) (p q:Bool),s=(ys,(c:Int),(d:Int),l,p,q)/\a<=c/\c<=d/\d<=b/\Seg a b xs ys/\Mid Xt ys a c d b/\Head ys c d/\0<=l/\l < 1000) (fun s=>(s.2.2.1 - s.2.1).toNat) ⟨xs,a,b,lim,true,true,rfl,Nat.le_refl _,hab,Nat.le_refl _,.refl,Mid.all,hh,hl0,hl1⟩ ?_) (fun o ⟨ys,ho,h⟩=>by subst ho;exact Runs.jl h);rintro _ ⟨ys,c,d,l,p,q,rfl,h1,h2,h3,hg,hm,hh,hl0,hl1⟩;have hlen:=hg.len;have hnd:ys.Nodup:=hg.perm.nodup_iff.2 hnd;have ew:w64 ((d:Int) - (c:Int))=((d - c:Nat):Int):=by rw [Xz (by omega)];omega
  unfold Qql;simp only [ew];refine Runs.bif (fun hc=>Runs.callR (Qtq h2 (by omega) (by omega)) fun zs ⟨k1,k2⟩=>Runs.some ⟨zs,rfl,hg.trans (k1.mono h1 h3),(hm.seg k1 h1 h3).srt k2⟩) (fun hc=>?_);have h13:13<=d - c:=by simp at hc;omega
  refine Runs.bif (fun hc=>Runs.callR (QFl (by omega) (by omega) (by omega)) fun zs ⟨k1,k2⟩=>Runs.some ⟨zs,rfl,hg.trans (k1.mono h1 h3),(hm.seg k1 h1 h3).srt k2⟩) (fun hc=>?_);have hl2:l≠0:=by simpa using hc
  refine Runs.callR (R:=fun r=>Seg c d ys r.1/\0<=r.2/\r.2 < 1000) (Runs.bif (fun _=>Runs.callR (QBn (by omega) (by omega) (by omega) (by omega)) fun zs k=>Runs.some ⟨k,by rw [Xz (by omega)];omega,by rw [Xz (by omega)];omega⟩) (fun _=>Runs.some ⟨.refl,hl0,hl1⟩)) ?_;rintro ⟨y1,l1⟩ ⟨g1,m1,m2⟩;simp only at g1 m1 m2;dsimp only;have n1:=g1.len;refine Runs.callR (QMj (a:=c) (b:=d) (by omega) (by omega) (by omega) (by omega)) ?_;rintro ⟨⟨pv,hint⟩,y1'⟩ ⟨hy1,pk,hpk,p1,p2⟩;simp only at hy1 hpk;subst hy1 hpk;dsimp only;refine Runs.callR (R:=fun r=>Seg c d ys r.1/\∃ k:Nat,r.2.1=(k:Int)/\c<=k/\k < d) (Runs.bif (fun _=>Runs.callR (QNm (by omega) (by omega) (by omega)) fun zs k=>Runs.some ⟨g1.trans k,d - 1 - (pk - c),by rw [Xz (x:=(d:Int) - 1) (by omega),Xz (x:=(pk:Int) - (c:Int)) (by omega),Xz (by omega)];dsimp only;omega,by omega,by omega⟩) (fun _=>Runs.some ⟨g1,pk,rfl,p1,p2⟩)) ?_;rintro ⟨y2,pv,hint⟩ ⟨g2,pk,hpk,p1,p2⟩;simp only at g2 hpk;subst hpk;dsimp only;have n2:=g2.len;refine Runs.callR (R:=fun o=>(∃ zs,o=.inl (.inr (.inl zs))/\Seg c d ys zs/\YY Xt zs c d)\/∃ zs,o=.inr zs/\Seg c d ys zs) (Runs.bif (fun _=>Runs.callR (QMi (by omega) (by omega) (by omega) (by omega)) ?_) (fun _=>Runs.some (.inr ⟨y2,rfl,g2⟩))) ?_
  ·rintro ⟨r1,r2⟩ ⟨hr,hs⟩;simp only at hr;subst hr;exact Runs.bif (fun ht=>Runs.some (.inl ⟨_,rfl,g2,hs ht⟩)) (fun _=>Runs.some (.inr ⟨_,rfl,g2⟩))
  rintro o (⟨zs,rfl,g3,hs⟩ | ⟨zs,rfl,g3⟩)
  ·exact Runs.jl ⟨zs,rfl,hg.trans (g3.mono h1 h3),(hm.seg g3 h1 h3).srt hs⟩
  refine Runs.jr ?_;have n3:=g3.len;have hh3:=hh.seg g3;have hm3:=hm.seg g3 h1 h3;have hg3:=hg.trans (g3.mono h1 h3);have hx:=List.getElem?_eq_getElem (l:=zs) (i:=pk) (by omega)
  -- what stands ahead is less than the pivot
  have key:∀ {β:Type} (A B:Option β),(Option.bind ((bif (decide (0 < (c:Int))) then idx zs (w64 ((c:Int) - 1)) else some default)) fun el1060=>(Option.bind ((bif (decide (0 < (c:Int))) then idx zs (pk:Int) else some default)) fun el1065=>(Option.bind (bif (decide (0 < (c:Int))) then Y6 el1060 el1065 else some default) fun r1070=>(bif ((decide (0 < (c:Int)))&&(!(decide (r1070 < 0)))) then A else B))))=B:=fun A B=>by
   by_cases e:0 < c
   ·rw [show decide (0 < (c:Int))=true by simp;omega];rcases hh3 with e' | ⟨u,hu,hk⟩
    ·omega
    ·simp only [cond_true,Bool.true_and,show w64 ((c:Int) - 1)=((c - 1:Nat):Int) by rw [Xz (by omega)];omega,Xw?,hu,hx,QE,Qaq,Qap,hk pk _ p1 p2 hx,Bool.not_true,cond_false]
   ·rw [show decide (0 < (c:Int))=false by simp;omega];rfl
  rw [key];refine Runs.callR (QMg p1 p2 (by omega) (by omega)) ?_;rintro ⟨⟨mm,al⟩,y4⟩ ⟨g4,m,v,hmm,q1,q2,hp⟩;simp only at g4 hmm hp;subst hmm;dsimp only;have n4:=g4.len;have hm4:=hm3.seg g4 h1 h3;have hg4:=hg3.trans (g4.mono h1 h3);have hh4:=hh3.seg g4;have hnd4:y4.Nodup:=(g3.trans g4).perm.nodup_iff.2 hnd;rw [show w64 ((m:Int) - (c:Int))=((m - c:Nat):Int) by rw [Xz (by omega)];omega,show w64 ((d:Int) - (m:Int))=((d - m:Nat):Int) by rw [Xz (by omega)];omega,XO m (by omega)];have hpow:2 ^ (fl+1)=2 * 2 ^ fl:=by rw [Nat.pow_succ];omega
  refine Runs.bif (fun hc=>?_) (fun hc=>?_)
  ·have hc:m - c < d - m:=by simp at hc;omega
   refine Runs.callR (ih (by omega) (by omega) (by omega) (by omega) (by omega) hnd4 m1 m2 (hh4.cut (by omega))) fun zs ⟨k1,k2⟩=>Runs.some ⟨⟨zs,m+1,d,l1,_,_,rfl,by omega,by omega,h3,hg4.trans (k1.mono h1 (by omega)),?_,?_,m1,m2⟩,?_⟩
   ·exact (hp.seg k1 (.inl ⟨Nat.le_refl _,Nat.le_refl _⟩)).left ltP_sto (hm4.seg (k1.mono (Nat.le_refl _) (by omega)) h1 h3) k2
   ·exact (hp.seg k1 (.inl ⟨Nat.le_refl _,Nat.le_refl _⟩)).head (k1.perm.nodup_iff.2 hnd4)
   ·show ((d:Int) - ((m+1:Nat):Int)).toNat < ((d:Int) - (c:Int)).toNat;omega
  ·have hc:d - m<=m - c:=by simp at hc;omega
   refine Runs.callR (ih (a:=m+1) (by omega) (by omega) (by omega) (by omega) (by omega) hnd4 m1 m2 (hp.head hnd4)) fun zs ⟨k1,k2⟩=>Runs.some ⟨⟨zs,c,m,l1,_,_,rfl,h1,q1,by omega,hg4.trans (k1.mono (by omega) h3),?_,?_,m1,m2⟩,?_⟩
   ·exact (hp.seg k1 (.inr ⟨by omega,Nat.le_refl _⟩)).right ltP_sto (hm4.seg (k1.mono (by omega) (Nat.le_refl _)) h1 h3) k2
   ·exact (hh4.seg (k1.mono (by omega) (Nat.le_refl _))).cut (by omega)
   ·show ((m:Int) - (c:Int)).toNat < ((d:Int) - (c:Int)).toNat;omega
theorem QGk:∀ l:Fin 50,(Qfw (IntKind.wrap .u64 ((l.val:Nat):Int))).any (fun (q:Int)=>decide (0<=q/\q < 1000))=true:=by decide +kernel
theorem QPu {xs:List Na} (hl:xs.length < 50) (hnd:xs.Nodup):∃ ys,Qgt xs=some ys/\ys.Perm xs/\YY Xt ys 0 ys.length:=by
 have key:Runs (Qgt xs) (fun ys=>ys.Perm xs/\YY Xt ys 0 ys.length):=by
  unfold Qgt;have:=QGk ⟨xs.length,hl⟩;cases hq:Qfw (IntKind.wrap .u64 ((xs.length:Nat):Int)) with
  | none=>rw [show ((⟨xs.length,hl⟩:Fin 50)).val=xs.length from rfl,hq] at this;cases this
  | some q =>
   rw [show ((⟨xs.length,hl⟩:Fin 50)).val=xs.length from rfl,hq] at this;simp at this;refine Runs.call rfl ?_;refine Runs.callR (QMh 5 (a:=0) (b:=xs.length) (Nat.zero_le _) (Nat.le_refl _) (by omega) (by omega) (by omega) hnd this.1 this.2 (.inl rfl)) fun ys ⟨h1,h2⟩=>Runs.some ⟨h1.perm,by rw [h1.len];exact h2⟩
 exact key
end Go.Gw

end
section
set_option maxRecDepth 4096
namespace Go.Gw
open Go
attribute [local irreducible] loop
theorem QBr (l:List Int) (r:Ni) (hl:l.length < 1000) (hr:r.Nb.length < 1000):Qkv l r=some (l.any fun s=>decide (s∈r.Nb)):=by
 unfold Qkv Qqg;rw [Zo l (fun s=>decide (s∈r.Nb)) (fun k _=>(k:Int)),QE,Qlf,QE,Qle]
 ·intro k hk;unfold Qqf;rw [X6 hk,Xw hk,XO k (by omega)];unfold Qof;simp only [cond_true,QE,Qnc _ _ (show r.Nb.length < 1000000 by omega)]
 ·unfold Qqf;rw [X7];rfl
def Qks (p:Nd) (k:Nat):List Int:=(p.Nc[k]?.map (·.Nb)).getD []
def cfl (p:Nd) (a b:Nat):Bool:=(Qks p a).any fun s=>decide (s∈Qks p b)
theorem Qkt {p:Nd} {k:Nat} (h:k < p.Nc.length):Qks p k=p.Nc[k].Nb:=by unfold Qks;rw [List.getElem?_eq_getElem h];rfl
def prI (a b:Nat):Na:=⟨(a:Int),(b:Int)⟩
theorem QMq {a b c d:Nat} (h:prI a b=prI c d):a=c/\b=d:=by
 unfold prI at h;have h1:=congrArg Na.e0 h;have h2:=congrArg Na.e1 h;dsimp only at h1 h2;omega
def Cfl (p:Nd) (ok:Nat->Nat->Prop) (x:Na):Prop:=∃ a b,x=prI a b/\a < b/\b < p.Nc.length/\cfl p a b=true/\ok a b
def tri:Nat->Nat
 | 0=>0
 | n+1=>tri n+n
theorem Qzd {n:Nat} (h:n<=10):tri n<=45:=by
 have:∀ k:Fin 11,tri k.val<=45:=by decide
 exact this ⟨n,by omega⟩
structure CflL (p:Nd) (ok:Nat->Nat->Prop) (l:List Na) (n:Nat):Prop where
 len:l.length<=n
 nd:l.Nodup
 mem:∀ x,x∈l↔Cfl p ok x
theorem CflL.more {p:Nd} {ok ok':Nat->Nat->Prop} {l:List Na} {n a b:Nat} (h:CflL p ok l n) (hab:a < b) (hb:b < p.Nc.length) (hc:cfl p a b=true) (hn:¬ ok a b) (hk:∀ c d,ok' c d↔ok c d\/(c=a/\d=b)):CflL p ok' (l++[prI a b]) (n+1):=by
 refine ⟨by have:=h.len;simp;omega,?_,fun x=>?_⟩
 ·rw [List.nodup_append];refine ⟨h.nd,by simp,fun x hx y hy e=>?_⟩;simp at hy;subst hy e;obtain ⟨c,d,e,_,_,_,k⟩:=(h.mem _).1 hx;obtain ⟨rfl,rfl⟩:=QMq e;exact hn k
 ·rw [List.mem_append,h.mem,List.mem_singleton];constructor
  ·rintro (⟨c,d,e,h1,h2,h3,h4⟩ | rfl)
   ·exact ⟨c,d,e,h1,h2,h3,(hk c d).2 (.inl h4)⟩
   ·exact ⟨a,b,rfl,hab,hb,hc,(hk a b).2 (.inr ⟨rfl,rfl⟩)⟩
  ·rintro ⟨c,d,e,h1,h2,h3,h4⟩;rcases (hk c d).1 h4 with h4 | ⟨rfl,rfl⟩
   ·exact .inl ⟨c,d,e,h1,h2,h3,h4⟩
   ·exact .inr e
theorem CflL.less {p:Nd} {ok ok':Nat->Nat->Prop} {l:List Na} {n n':Nat} (h:CflL p ok l n) (hn:n<=n') (hk:∀ c d,c < d->d < p.Nc.length->cfl p c d=true->(ok' c d↔ok c d)):CflL p ok' l n' :=
 ⟨Nat.le_trans h.len hn,h.nd,fun x=>(h.mem x).trans ⟨fun ⟨c,d,e,h1,h2,h3,h4⟩=>⟨c,d,e,h1,h2,h3,(hk c d h1 h2 h3).2 h4⟩,fun ⟨c,d,e,h1,h2,h3,h4⟩=>⟨c,d,e,h1,h2,h3,(hk c d h1 h2 h3).1 h4⟩⟩⟩
theorem QEz {p:Nd} (hS:PlantS p) (hr:p.Nc.length<=10):Runs (loop (Qog p) ([],0)) (fun l=>CflL p (fun _ _=>True) l 45):=by
 refine Runs.mono (Q:=fun l=>CflL p (fun _ d=>d < p.Nc.length) l (tri p.Nc.length)) (Runs.loop (fun s=>∃ (l:List Na) (b:Nat),s=(l,(b:Int))/\b<=p.Nc.length/\CflL p (fun _ d=>d < b) l (tri b)) (fun s=>p.Nc.length - s.2.toNat) ⟨[],0,rfl,Nat.zero_le _,by simp [tri],by simp,fun x=>⟨fun h=>(by cases h),fun ⟨_,_,_,_,_,_,h⟩=>absurd h (by omega)⟩⟩ ?_) (fun l h=>h.less (Qzd hr) fun c d h1 h2 h3=>⟨fun _=>h2,fun _=>trivial⟩);rintro _ ⟨l,b,rfl,hb,h⟩;unfold Qog;by_cases hlt:b < p.Nc.length
 ·have hR:=hS.rn _ (List.getElem_mem hlt);refine Runs.bif_t (X6 hlt) (Runs.call (Xw hlt) (Runs.call (Qfk (by omega)) ?_));refine Runs.callR (R:=fun l=>CflL p (fun c d=>d < b\/(d=b/\c < b)) l (tri b+b)) (Runs.loop (fun s=>∃ (l:List Na) (a:Nat),s=(l,(a:Int))/\a<=b/\CflL p (fun c d=>d < b\/(d=b/\c < a)) l (tri b+a)) (fun s=>b - s.2.toNat) ⟨l,0,rfl,Nat.zero_le _,h.less (Nat.le_refl _) fun c d _ _ _=>by omega⟩ ?_) ?_
  ·rintro _ ⟨l,a,rfl,ha,h⟩;have ht:=Qzd (n:=b) (by omega);have hll:=h.len;unfold Qua;have hlen:(p.Nc.take b).length=b:=by simp;omega
   by_cases hab:a < b
   ·have hA:=hS.rn _ (List.getElem_mem (show a < p.Nc.length by omega));rw [hlen];refine Runs.bif_t (X6 hab) (Runs.call (Xw (xs:=p.Nc.take b) (k:=a) (by omega)) ?_);rw [List.getElem_take];refine Runs.call (QBr _ _ (by omega) (by omega)) ?_;have hc:(p.Nc[a].Nb.any fun s=>decide (s∈p.Nc[b].Nb))=cfl p a b:=by unfold cfl;rw [Qkt,Qkt]
    rw [hc,XO a (by omega)];refine Runs.bif (fun ht=>Runs.call (Qbh (by simp;omega)) (Runs.some ⟨⟨_,a+1,rfl,by omega,h.more hab hlt ht (by omega) (by omega)⟩,?_⟩)) (fun hf=>Runs.some ⟨⟨_,a+1,rfl,by omega,h.less (by omega) fun c d h1 h2 h3=>?_⟩,?_⟩)
    ·show b - ((a+1:Nat):Int).toNat < b - ((a:Nat):Int).toNat;simp;omega
    ·have:¬(d=b/\c=a):=fun ⟨e1,e2⟩=>by subst e1 e2;rw [h3] at hf;cases hf
     omega
    ·show b - ((a+1:Nat):Int).toNat < b - ((a:Nat):Int).toNat;simp;omega
   ·have:a=b:=by omega
    subst this;rw [hlen];exact Runs.bif_f (X7 a) (Runs.some h)
  ·intro l h;rw [XO b (by omega)];refine Runs.some ⟨⟨l,b+1,rfl,by omega,h.less (Nat.le_refl _) fun c d _ _ _=>by omega⟩,?_⟩;show p.Nc.length - ((b+1:Nat):Int).toNat < p.Nc.length - ((b:Nat):Int).toNat;simp;omega
 ·have:b=p.Nc.length:=by omega
  subst this;exact Runs.bif_f (X7 _) (Runs.some h)
structure CflR (p:Nd) (l:List Na):Prop where
 up:l.Pairwise fun x y=>Xt x y=true
 mem:∀ x,x∈l↔Cfl p (fun _ _=>True) x
 len:l.length < 1000
theorem Qwj:∀ {l m:List Na},(l.Pairwise fun x y=>Xt x y=true)->(m.Pairwise fun x y=>Xt x y=true)->(∀ x,x∈l↔x∈m)->l=m
 | [],[],_,_,_=>rfl
 | [],y::m,_,_,h=>by have:=(h y).2 (by simp);cases this
 | x::l,[],_,_,h=>by have:=(h x).1 (by simp);cases this
 | x::l,y::m,h1,h2,h=>by
  rw [List.pairwise_cons] at h1 h2;have hxy:x=y:=by
   rcases List.mem_cons.1 ((h x).1 (by simp)) with e | e
   ·exact e
   ·rcases List.mem_cons.1 ((h y).2 (by simp)) with e' | e'
    ·exact e'.symm
    ·have:=ltP_sto.asym (h2.1 x e);rw [h1.1 y e'] at this;cases this
  subst hxy;rw [Qwj h1.2 h2.2 fun z=>⟨fun hz=>?_,fun hz=>?_⟩]
  ·rcases List.mem_cons.1 ((h z).1 (List.mem_cons_of_mem _ hz)) with rfl | e
   ·have:=h1.1 z hz;rw [ltP_sto.irr] at this;cases this
   ·exact e
  ·rcases List.mem_cons.1 ((h z).2 (List.mem_cons_of_mem _ hz)) with rfl | e
   ·have:=h2.1 z hz;rw [ltP_sto.irr] at this;cases this
   ·exact e
theorem QPv {l:List Na} (h:YY Xt l 0 l.length) (hn:l.Nodup):l.Pairwise fun x y=>Xt x y=true:=by
 rw [List.pairwise_iff_getElem];intro i j hi hj hij;have h1:=h i j _ _ (Nat.zero_le _) hij hj (List.getElem?_eq_getElem hi) (List.getElem?_eq_getElem hj);cases h2:Xt l[i] l[j] with
 | true=>rfl
 | false=>exact absurd (ltP_sto.tot _ _ h2 h1) (List.pairwise_iff_getElem.1 hn i j hi hj hij)
theorem QCa {p:Nd} (hS:PlantS p) (hp:PlantOk p) (h0:(Z7 p).2=0):∃ l,Qbp p=some (l,0)/\CflR p l:=by
 have key:Runs (Qbp p) (fun r=>r.2=0/\CflR p r.1):=by
  unfold Qbp;refine Runs.call (Qju hS) (Runs.bif_f (by rw [h0];rfl) ?_);refine Runs.callR (QEz hS hp.r10) fun l h=>?_;obtain ⟨ys,hy,h1,h2⟩:=QPu (xs:=l) (by have:=h.len;omega) h.nd;exact Runs.call hy (Runs.some ⟨rfl,QPv h2 (h1.nodup_iff.2 h.nd),fun x=>h1.mem_iff.trans (h.mem x),by have:=h.len;have:=h1.length_eq;show ys.length < 1000;omega⟩)
 obtain ⟨⟨l,e⟩,h1,rfl,h2⟩:=key;exact ⟨l,h1,h2⟩
theorem QBz {p:Nd} (hS:PlantS p) (h0:(Z7 p).2≠0):Qbp p=some ([],(Z7 p).2):=by
 unfold Qbp;rw [Qju hS,QE,decide_eq_false h0];rfl
theorem CflR.eq {p:Nd} {l m:List Na} (h:CflR p l) (k:CflR p m):l=m:=Qwj h.up k.up fun x=>(h.mem x).trans (k.mem x).symm
theorem QMv {p:Nd} (hS:PlantS p) {a b:Nat} (ha:a < p.Nc.length) (hb:b < p.Nc.length):Qjz p a b=some (cfl p a b):=by
 have hA:=hS.rn _ (List.getElem_mem ha);have hB:=hS.rn _ (List.getElem_mem hb);unfold Qjz;rw [Zo p.Nc[a].Nb (fun s=>decide (s∈p.Nc[b].Nb)) (fun _ _=>true),QE]
 ·unfold cfl;rw [Qkt ha,Qkt hb];rcases Jx (p:=fun s=>decide (s∈p.Nc[b].Nb)) (res:=fun _ _=>true) p.Nc[a].Nb 0 with ⟨k1,k2⟩ | ⟨j,x,k1,k2,k3⟩
  ·rw [k1,k2];rfl
  ·rw [k1,k3];rfl
 ·intro k hk;unfold Qpq;rw [Xw ha,QE,X6 hk,cond_true,Xw hb,QE,QE,Xw hk,QE,Qnp _ _ (show p.Nc[b].Nb.length < 1000000 by omega),QE,XO k (by omega)]
 ·unfold Qpq;rw [Xw ha,QE,X7];rfl
theorem QMw {p:Nd} (hS:PlantS p) (hp:PlantOk p):∃ l,Qgc p=some l/\CflR p l:=by
 have hr:=hp.r10;have key:Runs (Qgc p) (CflR p):=by
  unfold Qgc;refine Runs.bind (Runs.mono (Q:=CflR p) (Runs.loop (fun s=>∃ (l:List Na) (a:Nat),s=(l,(a:Int))/\a<=p.Nc.length/\CflL p (fun c _=>c < a) l (10 * a)/\l.Pairwise fun x y=>Xt x y=true) (fun s=>p.Nc.length - s.2.toNat) ⟨[],0,rfl,Nat.zero_le _,⟨by simp,by simp,fun x=>⟨fun h=>(by cases h),fun ⟨_,_,_,_,_,_,h⟩=>absurd h (by omega)⟩⟩,.nil⟩ ?_) (fun l h=>Runs.some h));rintro _ ⟨l,a,rfl,ha,h,hpw⟩;unfold Qwn;by_cases hlt:a < p.Nc.length
  ·refine Runs.bif_t (X6 hlt) ?_;rw [XO a (by omega)];refine Runs.callR (R:=fun l=>CflL p (fun c d=>c < a\/(c=a/\d < p.Nc.length)) l (10 * a+p.Nc.length)/\l.Pairwise fun x y=>Xt x y=true) (Runs.loop (fun s=>∃ (l:List Na) (b:Nat),s=(l,(b:Int))/\a < b/\b<=p.Nc.length/\CflL p (fun c d=>c < a\/(c=a/\d < b)) l (10 * a+b)/\l.Pairwise fun x y=>Xt x y=true) (fun s=>p.Nc.length - s.2.toNat) ⟨l,a+1,rfl,by omega,by omega,h.less (by omega) fun c d _ _ _=>by omega,hpw⟩ ?_) ?_
   ·rintro _ ⟨l,b,rfl,hab,hb,h,hpw⟩;have hll:=h.len;unfold Qwm;by_cases hbn:b < p.Nc.length
    ·refine Runs.bif_t (X6 hbn) (Runs.call (QMv hS hlt hbn) ?_);rw [XO b (by omega)];refine Runs.bif (fun ht=>Runs.call (Qbh (by simp;omega)) (Runs.some ⟨⟨_,b+1,rfl,by omega,by omega,h.more hab hbn ht (by omega) (by omega),?_⟩,?_⟩)) (fun hf=>Runs.some ⟨⟨_,b+1,rfl,by omega,by omega,h.less (by omega) fun c d h1 h2 h3=>?_,hpw⟩,?_⟩)
     ·rw [List.pairwise_append];refine ⟨hpw,by simp,fun x hx y hy=>?_⟩;simp at hy;subst hy;obtain ⟨c,d,rfl,_,_,_,k⟩:=(h.mem _).1 hx;unfold Xt;rw [decide_eq_true_eq];show (c:Int) < (a:Int)\/((c:Int)=(a:Int)/\(d:Int) < (b:Int));omega
     ·show p.Nc.length - ((b+1:Nat):Int).toNat < p.Nc.length - ((b:Nat):Int).toNat;simp;omega
     ·have:¬(c=a/\d=b):=fun ⟨e1,e2⟩=>by subst e1 e2;rw [h3] at hf;cases hf
      omega
     ·show p.Nc.length - ((b+1:Nat):Int).toNat < p.Nc.length - ((b:Nat):Int).toNat;simp;omega
    ·have:b=p.Nc.length:=by omega
     subst this;exact Runs.bif_f (X7 _) (Runs.some ⟨h,hpw⟩)
   ·rintro l ⟨h,hpw⟩;refine Runs.some ⟨⟨l,a+1,rfl,by omega,h.less (by omega) fun c d h1 h2 _=>by omega,hpw⟩,?_⟩;show p.Nc.length - ((a+1:Nat):Int).toNat < p.Nc.length - ((a:Nat):Int).toNat;simp;omega
  ·have:a=p.Nc.length:=by omega
   subst this;have hll:=h.len;exact Runs.bif_f (X7 _) (Runs.some ⟨hpw,(h.less (ok':=fun _ _=>True) (Nat.le_refl _) fun c d h1 h2 _=>⟨fun _=>by omega,fun _=>trivial⟩).mem,by omega⟩)
 obtain ⟨l,h1,h2⟩:=key;exact ⟨l,h1,h2⟩
/-! ### The routes from a section -/
def Qdw (p:Nd) (s:Int):List Int:=Qae (fun r:Ni=>decide (r.Nb.head?=some s)) (fun k _=>(k:Int)) 0 p.Nc
theorem QFw {p:Nd} (hp:PlantOk p) (s:Int):loop (Qiv p s) ([],0)=some (Qdw p s):=by
 refine Quu p.Nc (fun r:Ni=>decide (r.Nb.head?=some s)) (fun k _=>(k:Int)) (fun acc k=>(acc,(k:Int))) (fun acc=>acc) (fun k hk acc ha=>?_) (fun acc=>?_)
 ·have h2:=hp.r2 _ (List.getElem_mem hk);have hr:=hp.r10;unfold Qiv;dsimp only;have hh:p.Nc[k].Nb.head?=some (p.Nc[k].Nb[0]'(by omega)) := by rw [List.head?_eq_getElem?, List.getElem?_eq_getElem]
  rw [X6 hk,cond_true,Xw hk,QE,Qto (by omega),QE,hh,XO k (by omega)];by_cases e:p.Nc[k].Nb[0]'(by omega)=s
  ·rw [decide_eq_true e,cond_true,Qbh (by simp;omega),QE,if_pos (by simp [e])]
  ·rw [decide_eq_false e,cond_false,if_neg (by simp [e])]
 ·unfold Qiv;dsimp only;rw [X7];rfl
theorem QFy {p:Nd} (hS:PlantS p) (hp:PlantOk p) (h0:(Z7 p).2=0) (s:Int):Qdz p s=some (bif YU p s then (Qdw p s,0) else ([],6)):=by
 unfold Qdz;rw [Qju hS,QE,Qxh hS,QE,Qar _ (by simp),QE,h0,Qtl,QFw hp];cases YU p s<;>rfl
theorem QFx {p:Nd} (hS:PlantS p) (h0:(Z7 p).2≠0) (s:Int):Qdz p s=some ([],(Z7 p).2):=by
 unfold Qdz;rw [Qju hS,QE,Qxh hS,QE,Qar _ (by simp),QE,Qtl,if_pos h0,decide_eq_false h0];rfl
theorem QMx {p:Nd} (hp:PlantOk p) (s:Int):loop (Qka p s) ([],0)=some (Qdw p s):=by
 refine Quu p.Nc (fun r:Ni=>decide (r.Nb.head?=some s)) (fun k _=>(k:Int)) (fun acc k=>(acc,(k:Int))) (fun acc=>acc) (fun k hk acc ha=>?_) (fun acc=>?_)
 ·have h2:=hp.r2 _ (List.getElem_mem hk);have hr:=hp.r10;unfold Qka;dsimp only;have hh:p.Nc[k].Nb.head?=some (p.Nc[k].Nb[0]'(by omega)) := by rw [List.head?_eq_getElem?, List.getElem?_eq_getElem]
  rw [X6 hk,cond_true,Xw hk,QE,Qto (by omega),QE,hh,XO k (by omega)];by_cases e:p.Nc[k].Nb[0]'(by omega)=s
  ·rw [decide_eq_true e,cond_true,Qbh (by simp;omega),QE,if_pos (by simp [e])]
  ·rw [decide_eq_false e,cond_false,if_neg (by simp [e])]
 ·unfold Qka;dsimp only;rw [X7];rfl
theorem QMy {p:Nd} (hp:PlantOk p) (s:Int):Qkb p s=some (Qdw p s):=by
 unfold Qkb;rw [QMx hp];rfl
theorem Qtg {α β:Type} {p:α->Bool} {g:Nat->α->β}:∀ (l:List α) (k:Nat),(Qae p g k l).length<=l.length
 | [],k=>Nat.le_refl _
 | x::l,k=>by
  have:=Qtg (p:=p) (g:=g) l (k+1);unfold Qae;split<;>simp<;>omega
end Go.Gw

end
