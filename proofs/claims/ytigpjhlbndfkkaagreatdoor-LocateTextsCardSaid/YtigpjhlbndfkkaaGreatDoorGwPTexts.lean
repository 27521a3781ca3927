/- Locate: texts of readings and tracks. Condition: numbers of 64 bits. -/
import Derived.Test.YtigpjhlbndfkkaaGreatDoorGwLx2
import Derived.Test.YtigpjhlbndfkkaaGreatDoorGwOpens
set_option linter.unusedVariables false
set_option linter.unusedSimpArgs false
set_option linter.unusedSectionVars false
set_option maxRecDepth 4096
set_option linter.unusedVariables false
set_option linter.unusedSectionVars false
open Go.Gw.Runs renaming call→Ea,some→Eb,eq→Ec,bif_f→Ed,bif_t→Ee,callR→Ei
open List renaming length→Ef,length_cons→Ej,length_append→Ek,cons→El,mem_cons→En,map_cons→Eo,map_nil→Ep
open Nat renaming zero_le→Eg,le_trans→Eh
namespace Go.Gw
open Go
attribute [local irreducible] loop
/-! ### A reading is read -/
theorem QFk:Zx 32=sp:=rfl
theorem Quz {s:ByteArray} (hs:s.size<=1000):((32:Int)∉Qq s/\Qby s (ByteArray.mk #[32])=some (s,ByteArray.mk #[],false)) \/
    ∃ A B,Qq s=Qq A++32::Qq B/\(32:Int)∉Qq A/\Qby s (ByteArray.mk #[32])=some (A,B,true):=by
  have hlen:=Xx s;have hi:Qar s (ByteArray.mk #[32])=some (Zj s 32):=by
    have h:=Qmk (s:=s) (c:=32) (by decide);rw [QFk] at h;unfold Qdk at h;cases h2:Qar s sp with
    | none=>rw [h2] at h;cases h
    | some v=>rw [h2] at h;exact h
  have h1:(ByteArray.mk #[32]).size=1:=rfl;rcases Qhl (s:=s) (c:=32) (by decide) with ⟨k1,k2⟩ | ⟨a,b,k1,k2,k3⟩
  · refine .inl ⟨k1,Ec ?_⟩;unfold Qby;refine Ea (b:=(s,ByteArray.mk #[],false)) (Ec ?_) (Eb rfl);unfold Qek;refine Ea hi (Ed ?_ (Eb rfl));rw [show Zj s 32=-1 from k2];rfl
  · have hl : s.size = a.length + (b.length + 1) := by
      rw [<-hlen,k1,Ek,Ej]
    obtain ⟨A,p1,p2⟩:=J8 (s:=s) (a:=0) (b:=a.length) (Eg _) (by omega);obtain ⟨B,q1,q2⟩:=J8 (s:=s) (a:=a.length+1) (b:=s.size) (by omega) (Nat.le_refl _);have hA:Qq A=a:=by rw [p2,k1,List.take_left',List.drop_zero];rfl
    have hB:Qq B=b:=by
      rw [q2,List.take_of_length_le (by omega),k1,List.drop_append,List.drop_of_length_le (by omega)];simp
    refine .inr ⟨A,B,by rw [hA,hB];exact k1,by rw [hA];exact k2,Ec ?_⟩;unfold Qby;refine Ea (b:=(A,B,true)) (Ec ?_) (Eb rfl);unfold Qek;have e:Zj s 32=((a.length:Nat):Int):=k3;refine Ea hi (Ee ?_ (Ea (b:=A) ?_ (Ea (b:=B) ?_ (Eb rfl))))
    · rw [e];exact decide_eq_true (by omega)
    · rw [e];exact p1
    · rw [e,h1,show w64 (((a.length:Nat):Int)+((1:Nat):Int))=((a.length+1:Nat):Int) from XZ _ (by omega)];exact q1
def noR:Nl:=⟨[],0⟩
theorem Qpn {s:ByteArray} (hs:s.size<=1000):∃ r:Nl×Int,Qel s=some r/\Qip s=some (r.1,decide (r.2=0))/\(r.2=0\/r.2=7)/\r.1.Seen.length<=1000 /\
    ∀ l n,XB 32 (Qq s)=[Yn l,Xj n]->l≠[]->(∀ x∈l,x=0\/x=1\/x=2)->0<=n->n < 10000->r=(⟨l,n⟩,0):=by
  obtain ⟨W,hW,hm⟩:=Qll (s:=s) (c:=32) (by omega);have hlen:=Xx s;rcases Quz hs with ⟨k1,k2⟩ | ⟨A,B,k1,k2,k3⟩
  · -- one word
    rw [JB k1] at hm;obtain ⟨b,n,n',e1,e2,e3,_⟩:=Zc (ByteArray.mk #[]) 4 (by decide) (by decide);have hb:b=false:=by
      cases b with
      | false=>rfl
      | true =>
        obtain ⟨c,t,h⟩:=Qlm n;have:=(e3 rfl).2.2;rw [h] at this;cases this
    subst hb;refine ⟨(noR,7),Ec ?_,Ec ?_,.inr rfl,Eg _,fun l n h=>?_⟩
    · exact Ea k2 (Ea (Qev hs) (Ea e1 (Ee (by simp) (Eb rfl))))
    · refine Ea hW (Ee ?_ (Eb rfl));have:=congrArg Ef hm;rw [List.length_map] at this;rw [decide_eq_false (by simp at this;omega)];rfl
    · rw [JB k1] at h;have:=congrArg Ef h;simp at this
  · have hAl : A.size <= 1000 := by
      have:=congrArg Ef k1;rw [Ek,Ej,Xx,Xx,Xx] at this;omega
    have hBl:B.size<=1000:=by
      have:=congrArg Ef k1;rw [Ek,Ej,Xx,Xx,Xx] at this;omega
    rw [k1,J6 k2] at hm;obtain ⟨b,n,n',e1,e2,e3,e4⟩:=Zc B 4 (by decide) hBl;by_cases hB:(32:Int)∈Qq B
    · -- three words,or more
      have hb:b=false:=by
        cases b with
        | false=>rfl
        | true =>
          rw [(e3 rfl).2.2] at hB;have:=Qhc hB;omega
      subst hb;have h3:2<=(XB 32 (Qq B)).length:=by
        rw [Qrm];have:=List.count_pos_iff.2 hB;omega
      refine ⟨(noR,7),Ec ?_,Ec ?_,.inr rfl,Eg _,fun l n h=>?_⟩
      · exact Ea k3 (Ea (Qev hAl) (Ea e1 (Ee (by simp) (Eb rfl))))
      · refine Ea hW (Ee ?_ (Eb rfl));have:=congrArg Ef hm;rw [List.length_map,Ej] at this;rw [decide_eq_false (by omega)];rfl
      · rw [k1,J6 k2] at h;have:=congrArg Ef h;simp at this;omega
    · rw [JB hB] at hm;have hWe:W=[A,B]:=Qeq (hm.trans rfl);subst hWe;have e0:=Qqz hAl;have e5:=Qev (u:=true) hAl;generalize hv:XS true (Qq A)=v at e0 e5;refine ⟨bif (!v.2)||(!b) then (noR,7) else (⟨v.1,n⟩,0),Ec ?_,Ec ?_,?_,?_,fun l m h h0 hx hm0 hm1=>?_⟩
      · refine Ea k3 (Ea e5 (Ea e1 ?_));dsimp only;cases hb:(!v.2||!b) with
        | true=>exact Ee rfl (Eb rfl)
        | false=>exact Ed rfl (Eb rfl)
      · refine Ea hW (Ed rfl (Ea (b:=A) rfl (Ea e0 (Ea (b:=B) rfl (Ea e2 ?_)))));dsimp only;cases hb:(!v.2||!b) with
        | true=>exact Ee rfl (Eb rfl)
        | false =>
          have hb2:b=true:=by cases b<;>simp_all
          refine Ed rfl (Eb ?_);rw [(e3 hb2).1];rfl
      · cases (!v.2||!b) with
        | true=>exact .inr rfl
        | false=>exact .inl rfl
      · have hvl:=Qde true (Qq A);rw [hv,Xx] at hvl;cases (!v.2||!b) with
        | true=>exact Eg _
        | false=>exact Eh hvl hAl
      · rw [k1,J6 k2,JB hB] at h;have h1:Qq A=Yn l:=(El.inj h).1;have h2:Qq B=Xj m:=(El.inj (El.inj h).2).1;have h3:Zm m=0:=by unfold Zm;rw [if_neg (by omega)]
        have h4:(Qq B).length<=4:=by
          rw [h2,Qhb,h3];exact Qdd (by decide) (by omega)
        obtain ⟨rfl,rfl⟩:=e4 m hm0 h2 h4;rw [h1,Qpv h0 (fun x hx'=>by rcases hx x hx' with e | e | e<;>simp [e])] at hv;rw [<-hv];rfl
/-! ### A track is read -/
theorem wl8 {W:List ByteArray} (h:W.length=8):∃ w0 w1 w2 w3 w4 w5 w6 w7,W=[w0,w1,w2,w3,w4,w5,w6,w7]:=by
 match W,h with
 | [w0,w1,w2,w3,w4,w5,w6,w7],_=>exact ⟨w0,w1,w2,w3,w4,w5,w6,w7,rfl⟩
theorem wl9 {W:List ByteArray} (h:W.length=9):∃ w0 w1 w2 w3 w4 w5 w6 w7 w8,W=[w0,w1,w2,w3,w4,w5,w6,w7,w8]:=by
 match W,h with
 | [w0,w1,w2,w3,w4,w5,w6,w7,w8],_=>exact ⟨w0,w1,w2,w3,w4,w5,w6,w7,w8,rfl⟩
structure Rt (t:Na):Prop where
 v:t.Nj≠[]
 b:∀ x∈t.Nj,Y0 x=true
 n:∀ x∈Xw t,0<=x/\x < 1000000000
 c:(ZD t).2=0
 w:1<=t.Nb
 m:t.Nc<=1000
theorem QEu {t:Na} (h:(ZD t).2=0):Rt t:=by
 have h0:=h;unfold ZD at h;split at h
 ·exact absurd h (by decide)
 rename_i hw;rw [Decidable.not_not] at hw;split at h
 ·exact absurd h (by decide)
 rename_i hl;split at h
 ·exact absurd h (by decide)
 split at h
 ·exact absurd h (by simp)
 rename_i hs;split at h
 rotate_left
 ·exact absurd h (by decide)
 rename_i hr;unfold Qfd at hr;simp only [Bool.and_eq_true,decide_eq_true_eq] at hr;refine ⟨fun e=>?_,fun x hx=>?_,fun x hx=>?_,h0,hw.1,by omega⟩
 ·rw [e] at hl;simp at hl;omega
 ·have:=srch_none.1 hs x hx;simpa using this
 ·simp only [Xw,En,List.not_mem_nil,or_false] at hx;rcases hx with rfl | rfl | rfl | rfl | rfl | rfl | rfl<;>omega
theorem Zt {s:ByteArray} {b:Bool} {n m:Int} (h:∀ m,0<=m->Qq s=Xj m->(Qq s).length<=9->b=true/\n=m) (hm:0<=m/\m < 1000000000) (e:Qq s=Xj m):b=true/\n=m:=by
 refine h m hm.1 e ?_;have h3:Zm m=0:=by unfold Zm;rw [if_neg (by omega)]
 rw [e,Qhb,h3];exact Qdd (by decide) (by omega)
/-! ### Both read -/
theorem Qps {fl:Bool} {v:List Int×Bool} {b1 b2 b3 b4 b5 b6 b7:Bool} {n1 n2 n3 n4 n5 n6 n7 n1' n2' n3' n4' n5' n6' n7':Int} (d1:b1=true->n1'=n1) (d2:b2=true->n2'=n2) (d3:b3=true->n3'=n3) (d4:b4=true->n4'=n4) (d5:b5=true->n5'=n5) (d6:b6=true->n6'=n6) (d7:b7=true->n7'=n7) :
  ZK fl v (b1&&(b2&&(b3&&(b4&&(b5&&(b6&&b7)))))) n1' n2' n3' n4' n5' n6' n7'=ZK fl v (b1&&(b2&&(b3&&(b4&&(b5&&(b6&&b7)))))) n1 n2 n3 n4 n5 n6 n7:=by
 cases hB:(b1&&(b2&&(b3&&(b4&&(b5&&(b6&&b7)))))) with
 | false =>
  unfold ZK;rw [Bool.and_false];rfl
 | true =>
  simp only [Bool.and_eq_true] at hB;obtain ⟨h1,h2,h3,h4,h5,h6,h7⟩:=hB;rw [d1 h1,d2 h2,d3 h3,d4 h4,d5 h5,d6 h6,d7 h7]
theorem Qpu {t:Na} (ht:Rt t) {w0:ByteArray} (h0:Qq w0=Yn t.Nj):ZK t.Ni (XS false (Qq w0)) true t.Nb t.Nd t.Nf t.Ng t.Nc t.Nh t.Errors=(t,0):=by
 rw [h0,Qpv ht.v fun x hx=>by
  rcases isB_iff.1 (ht.b x hx) with e | e
  ·exact .inl e
  ·exact .inr (.inl e)]
 unfold ZK;have e:(⟨t.Nj,t.Nb,t.Nd,t.Nf,t.Ng,t.Nc,t.Nh,t.Errors,t.Ni⟩:Na)=t:=rfl;dsimp only;rw [e,ht.c];rfl
theorem Qpt {fl:Bool} {v:List Int×Bool} {B:Bool} {n1 n2 n3 n4 n5 n6 n7:Int} (h:v.1.length<=1000):(ZK fl v B n1 n2 n3 n4 n5 n6 n7).1.Nj.length<=1000:=by
 unfold ZK;cases v.2&&B
 ·exact Eg _
 ·cases !decide ((ZD ⟨v.1,n1,n2,n3,n4,n5,n6,n7,fl⟩).2=0)
  ·exact h
  ·exact Eg _
theorem Qfy (t:Na):(words t).length=if t.Ni=true then 9 else 8:=by
 unfold words;split
 ·rfl
 ·rfl
theorem Qpo {s:ByteArray} (hs:s.size<=1000):∃ r,Qem s=some r/\Qiq s=some r/\r.1.Nj.length<=1000/\∀ t,Rt t->XB 32 (Qq s)=(words t).map Qq->r=(t,0):=by
  obtain ⟨W,hW,hm⟩:=QGl (s:=s) (c:=32) (by decide) (by omega);obtain ⟨W',hW',hm'⟩:=Qll (s:=s) (c:=32) (by omega);obtain rfl:W=W':=Qeq (hm.trans hm'.symm);have hsz:∀ w∈W,w.size<=1000:=fun w hw=>by
    have h1:=Qrl 32 (Qq s) (Qq w) (by
      have h2:Qq w∈W.map Qq:=List.mem_map_of_mem hw;exact hm▸h2)
    rw [Xx,Xx] at h1;omega
  have hwl:∀ t,XB 32 (Qq s)=(words t).map Qq->W=words t:=fun t h=>Qeq (hm.trans h)
  by_cases h8:W.length=8
  · obtain ⟨w0,w1,w2,w3,w4,w5,w6,w7,rfl⟩:=wl8 h8;obtain ⟨b1,n1,n1',a1,c1,d1,f1⟩:=Zc w1 9 (by decide) (hsz w1 (by simp));obtain ⟨b2,n2,n2',a2,c2,d2,f2⟩:=Zc w2 9 (by decide) (hsz w2 (by simp));obtain ⟨b3,n3,n3',a3,c3,d3,f3⟩:=Zc w3 9 (by decide) (hsz w3 (by simp));obtain ⟨b4,n4,n4',a4,c4,d4,f4⟩:=Zc w4 9 (by decide) (hsz w4 (by simp));obtain ⟨b5,n5,n5',a5,c5,d5,f5⟩:=Zc w5 9 (by decide) (hsz w5 (by simp));obtain ⟨b6,n6,n6',a6,c6,d6,f6⟩:=Zc w6 9 (by decide) (hsz w6 (by simp));obtain ⟨b7,n7,n7',a7,c7,d7,f7⟩:=Zc w7 9 (by decide) (hsz w7 (by simp));refine ⟨ZK false (XS false (Qq w0)) (b1&&(b2&&(b3&&(b4&&(b5&&(b6&&b7)))))) n1 n2 n3 n4 n5 n6 n7,Ec ?_,Ec ?_,Qpt (by have:=Qde false (Qq w0);rw [Xx] at this;exact Eh this (hsz w0 (by simp))),fun t ht h=>?_⟩
    · refine Ea (b:=()) rfl (Ea hW (Ea (b:=default) rfl (Ei (R:=fun x=>x=([w0,w1,w2,w3,w4,w5,w6,w7],false)) (Ed rfl (Eb rfl)) ?_)));rintro _ rfl;exact ⟨_,Qod (hsz w0 (by simp)) a1 a2 a3 a4 a5 a6 a7,rfl⟩
    · refine Ea hW' (Ea (b:=default) rfl (Ed rfl ⟨_,Qqh (R:=[]) (fl:=false) (hsz w0 (by simp)) rfl c1 c2 c3 c4 c5 c6 c7,?_⟩));exact Qps (fun e=>(d1 e).1) (fun e=>(d2 e).1) (fun e=>(d3 e).1) (fun e=>(d4 e).1) (fun e=>(d5 e).1) (fun e=>(d6 e).1) (fun e=>(d7 e).1)
    · have e:=hwl t h;have hl:=congrArg Ef e;rw [Qfy] at hl;have hr:t.Ni=false:=by
        cases hr:t.Ni with
        | false=>rfl
        | true=>rw [hr] at hl;cases hl
      have hw:words t=Yb t:=by unfold words;rw [if_neg (by rw [hr];decide)]
      rw [hw] at e;simp only [Yb,Xw,Eo,Ep,El.injEq,and_true] at e;obtain ⟨e0,e1,e2,e3,e4,e5,e6,e7⟩:=e;obtain ⟨rfl,rfl⟩:=Zt f1 (ht.n t.Nb (by simp [Xw])) (by rw [e1,YC]);obtain ⟨rfl,rfl⟩:=Zt f2 (ht.n t.Nd (by simp [Xw])) (by rw [e2,YC]);obtain ⟨rfl,rfl⟩:=Zt f3 (ht.n t.Nf (by simp [Xw])) (by rw [e3,YC]);obtain ⟨rfl,rfl⟩:=Zt f4 (ht.n t.Ng (by simp [Xw])) (by rw [e4,YC]);obtain ⟨rfl,rfl⟩:=Zt f5 (ht.n t.Nc (by simp [Xw])) (by rw [e5,YC]);obtain ⟨rfl,rfl⟩:=Zt f6 (ht.n t.Nh (by simp [Xw])) (by rw [e6,YC]);obtain ⟨rfl,rfl⟩:=Zt f7 (ht.n t.Errors (by simp [Xw])) (by rw [e7,YC]);have:=Qpu ht (w0:=w0) (by rw [e0,Qah]);rw [hr] at this;exact this
  by_cases h9:W.length=9
  · obtain ⟨w0,w1,w2,w3,w4,w5,w6,w7,w8,rfl⟩:=wl9 h9;by_cases hw8:w8=ByteArray.mk #[114,111,117,110,100]
    · obtain ⟨b1,n1,n1',a1,c1,d1,f1⟩:=Zc w1 9 (by decide) (hsz w1 (by simp));obtain ⟨b2,n2,n2',a2,c2,d2,f2⟩:=Zc w2 9 (by decide) (hsz w2 (by simp));obtain ⟨b3,n3,n3',a3,c3,d3,f3⟩:=Zc w3 9 (by decide) (hsz w3 (by simp));obtain ⟨b4,n4,n4',a4,c4,d4,f4⟩:=Zc w4 9 (by decide) (hsz w4 (by simp));obtain ⟨b5,n5,n5',a5,c5,d5,f5⟩:=Zc w5 9 (by decide) (hsz w5 (by simp));obtain ⟨b6,n6,n6',a6,c6,d6,f6⟩:=Zc w6 9 (by decide) (hsz w6 (by simp));obtain ⟨b7,n7,n7',a7,c7,d7,f7⟩:=Zc w7 9 (by decide) (hsz w7 (by simp));have hd:decide (w8=ByteArray.mk #[114,111,117,110,100])=true:=decide_eq_true hw8;refine ⟨ZK true (XS false (Qq w0)) (b1&&(b2&&(b3&&(b4&&(b5&&(b6&&b7)))))) n1 n2 n3 n4 n5 n6 n7,Ec ?_,Ec ?_,Qpt (by have:=Qde false (Qq w0);rw [Xx] at this;exact Eh this (hsz w0 (by simp))),fun t ht h=>?_⟩
      · refine Ea (b:=()) rfl (Ea hW (Ea (b:=w8) rfl (Ei (R:=fun x=>x=([w0,w1,w2,w3,w4,w5,w6,w7],true)) (Ee (by rw [hd];rfl) (Ea (b:=[w0,w1,w2,w3,w4,w5,w6,w7]) rfl (Eb rfl))) ?_)));rintro _ rfl;exact ⟨_,Qod (hsz w0 (by simp)) a1 a2 a3 a4 a5 a6 a7,rfl⟩
      · refine Ea hW' (Ea (b:=w8) rfl (Ed (by rw [hd];rfl) ⟨_,Qqh (R:=[w8]) (fl:=true) (hsz w0 (by simp)) rfl c1 c2 c3 c4 c5 c6 c7,?_⟩));exact Qps (fun e=>(d1 e).1) (fun e=>(d2 e).1) (fun e=>(d3 e).1) (fun e=>(d4 e).1) (fun e=>(d5 e).1) (fun e=>(d6 e).1) (fun e=>(d7 e).1)
      · have e:=hwl t h;have hl:=congrArg Ef e;rw [Qfy] at hl;have hr:t.Ni=true:=by
          cases hr:t.Ni with
          | true=>rfl
          | false=>rw [hr] at hl;cases hl
        have hw:words t=Yb t++[rnd]:=by unfold words;rw [if_pos hr]
        rw [hw] at e;simp only [Yb,Xw,Eo,Ep,List.cons_append,List.nil_append,El.injEq,and_true] at e;obtain ⟨e0,e1,e2,e3,e4,e5,e6,e7,e8⟩:=e;obtain ⟨rfl,rfl⟩:=Zt f1 (ht.n t.Nb (by simp [Xw])) (by rw [e1,YC]);obtain ⟨rfl,rfl⟩:=Zt f2 (ht.n t.Nd (by simp [Xw])) (by rw [e2,YC]);obtain ⟨rfl,rfl⟩:=Zt f3 (ht.n t.Nf (by simp [Xw])) (by rw [e3,YC]);obtain ⟨rfl,rfl⟩:=Zt f4 (ht.n t.Ng (by simp [Xw])) (by rw [e4,YC]);obtain ⟨rfl,rfl⟩:=Zt f5 (ht.n t.Nc (by simp [Xw])) (by rw [e5,YC]);obtain ⟨rfl,rfl⟩:=Zt f6 (ht.n t.Nh (by simp [Xw])) (by rw [e6,YC]);obtain ⟨rfl,rfl⟩:=Zt f7 (ht.n t.Errors (by simp [Xw])) (by rw [e7,YC]);have:=Qpu ht (w0:=w0) (by rw [e0,Qah]);rw [hr] at this;exact this
    · have hd:decide (w8=ByteArray.mk #[114,111,117,110,100])=false:=decide_eq_false hw8;refine ⟨(noT,7),Ec ?_,Ec ?_,Eg _,fun t ht h=>?_⟩
      · refine Ea (b:=()) rfl (Ea hW (Ea (b:=w8) rfl (Ei (R:=fun x=>x=([w0,w1,w2,w3,w4,w5,w6,w7,w8],false)) (Ed (by rw [hd];rfl) (Eb rfl)) ?_)));rintro _ rfl;refine Ei (R:=fun x=>x=(false,[],0,0,0,0,0,0,0)) (Ed rfl (Eb rfl)) ?_;rintro _ rfl;exact Ee rfl (Eb rfl)
      · exact Ea hW' (Ea (b:=w8) rfl (Ee (by rw [hd];rfl) (Eb rfl)))
      · exfalso;have e:=hwl t h;have hl:=congrArg Ef e;rw [Qfy] at hl;have hr:t.Ni=true:=by
          cases hr:t.Ni with
          | true=>rfl
          | false=>rw [hr] at hl;cases hl
        have hw:words t=Yb t++[rnd]:=by unfold words;rw [if_pos hr]
        rw [hw] at e;simp only [Yb,Xw,Eo,Ep,List.cons_append,List.nil_append,El.injEq,and_true] at e;obtain ⟨e0,e1,e2,e3,e4,e5,e6,e7,e8⟩:=e;exact hw8 e8
  · have g8:decide ((W.length:Int)=8)=false:=decide_eq_false (by omega);have g9:decide ((W.length:Int)=9)=false:=decide_eq_false (by omega);refine ⟨(noT,7),Ec ?_,Ec ?_,Eg _,fun t ht h=>?_⟩
    · refine Ea (b:=()) rfl (Ea hW (Ea (b:=default) (by rw [g9];rfl) (Ei (R:=fun x=>x=(W,false)) (Ed (by rw [g9];rfl) (Eb rfl)) ?_)));rintro _ rfl;refine Ei (R:=fun x=>x=(false,[],0,0,0,0,0,0,0)) (Ed g8 (Eb (by rw [g8]))) ?_;rintro _ rfl;exact Ee rfl (Eb rfl)
    · exact Ea hW' (Ea (b:=default) (by rw [g8,g9];rfl) (Ee (by rw [g8,g9];rfl) (Eb rfl)))
    · exfalso;have hl:=congrArg Ef (hwl t h);rw [Qfy] at hl;split at hl
      · exact h9 hl
      · exact h8 hl
/-! ### The law -/
theorem Qms {l:List Int} (hl:l.length<=100000):Qbh l l=some true:=by
 refine Ec ?_;unfold Qbh;refine Ed (by rw [decide_eq_true rfl];rfl) (Ea (b:=(.inr ():Bool⊕Unit)) ?_ (Runs.jr (Eb rfl)));rw [Qbs l (fun _=>false) (fun _ _=>false)]
 ·rw [srch_none.2 fun _ _=>rfl]
 ·intro k hk;unfold Qgq;rw [Y1 hk,cond_true,X0 hk,Option.bind_some,Option.bind_some,decide_eq_true rfl,XZ k (by omega)];rfl
 ·unfold Qgq;rw [Y2];rfl
theorem Qff {t:Na} (hl:t.Nj.length<=100000):Qbu t t=some true :=
 Ec (Ea (Qms hl) (Eb (by simp)))
theorem Qqx {x:Nl} (hl:x.Seen.length<=100000):Qfa x x=some true :=
 Ec (Ea (Qms hl) (Eb (by simp)))
theorem QEc (t:Na) {x:Nl} (hl:x.Seen.length<=100000):Runs (Qez t x) fun e=>e=0->(x.Seen.length:Int)=t.Nb/\(∀ v∈x.Seen,JW v=true)/\0<=x.Count/\x.Count<=w64 (t.Nc - 1):=by
 unfold Qez;refine Ei (R:=fun e=>e=0->(x.Seen.length:Int)=t.Nb/\∀ v∈x.Seen,JW v=true) ?_ fun e he=>?_
 ·unfold Qis;refine Runs.bif (fun hb=>Eb fun h=>absurd h (by decide)) (fun hb=>?_);have hw:(x.Seen.length:Int)=t.Nb:=by simpa using hb
  rw [Qbs x.Seen (fun v=>!JW v) (fun _ _=>(15:Int))]
  ·refine Ea rfl ?_;cases hs:X1 (fun v=>!JW v) (fun _ _=>(15:Int)) 0 x.Seen with
   | inl e =>
    obtain ⟨_,_,_,e2,_⟩:=Qro hs;refine Runs.jl fun h=>?_;rw [e2] at h;exact absurd h (by decide)
   | inr u =>
    refine Runs.jr (Eb fun _=>⟨hw,fun v hv=>?_⟩);have:=srch_none.1 hs v hv;simpa using this
  ·intro k hk;unfold Qir;rw [Y1 hk,cond_true,X0 hk,Option.bind_some,XZ k (by omega)];show ((ZC x.Seen[k] 0 2).bind fun r3=>some r3).bind _=_;rw [Qdw,Qyv];rfl
  ·unfold Qir;rw [Y2];rfl
 ·refine Runs.bif (fun hb=>Eb fun h=>absurd h (by simpa using hb)) (fun hb=>?_);have h0:=he (by simpa using hb);refine Ea (Qdw _ _ _) (Runs.bif (fun hb2=>Eb fun h=>absurd h (by decide)) (fun hb2=>Eb fun _=>?_));have h1:0<=x.Count/\x.Count<=w64 (t.Nc - 1):=by simpa using hb2
  exact ⟨h0.1,h0.2,h1.1,h1.2⟩
theorem Qto (t:Na) (x:Nl) (s:ByteArray) (ht:V24 t) (hx:V26 x) (_:s.size<=maxLen):Qhp t x s=some true:=by
  refine Ec ?_;unfold Qhp;refine Ea Quf (Ed rfl (Ea (b:=(decide ((t.Nj.length:Int)<=16))||((decide (40 < (t.Nj.length:Int)))&&(decide ((t.Nj.length:Int)<=42)))) rfl (Runs.bif (fun _=>Eb rfl) (fun hb=>?_))));have hb:t.Nj.length<=42/\x.Seen.length<=14/\s.size<=120:=by
    simp only [Bool.or_eq_false_iff,Bool.not_eq_false',Bool.or_eq_true,Bool.and_eq_true,decide_eq_true_eq,decide_eq_false_iff_not] at hb;omega
  obtain ⟨hv,hs,hz⟩:=hb;obtain ⟨_,g1,g2,g3,g4,g5,g6,g7,_⟩:=ht;have hNm:Nm t:=⟨by omega,fun y hy=>by
    simp only [Xw,En,List.not_mem_nil,or_false] at hy;rcases hy with rfl | rfl | rfl | rfl | rfl | rfl | rfl<;>assumption⟩
  have hC:YK x.Count:=hx.2;have hcopyR:Qin x=some x:=Ec (Ea (Qjz x.Seen (by omega)) (Eb rfl));have hcopyT:Qdf t=some t:=Qtm t (by omega);have hfr:=Qyx (x:=x) (by omega) hC;have hft:=Qyy hNm;have hfr':=QDz (x:=x) (by omega) hC;have hft':=QEa hNm;obtain ⟨r,r1,r2,r3,hrl,_⟩:=Qpn (s:=s) (by omega);obtain ⟨q,q1,q2,hql,_⟩:=Qpo (s:=s) (by omega);have hvt:t.Nj.length<=100000:=by omega
  have hsx:x.Seen.length<=100000:=by omega
  refine Ea hcopyR (Ea hfr (Ea hcopyT (Ea hft (Ea r1 (Ea q1 (Ea hfr' (Ea (b:=Z2 t) (by rw [decide_eq_true rfl];exact hft') (Ed (by rw [decide_eq_true rfl,decide_eq_true rfl];rfl) (Ea r2 (Ea (b:=true) ?_ (Ed ?_ (Ea q2 (Ea (b:=true) ?_ (Ea (b:=(ZD t).2) ?_ (Runs.bif (fun hb=>?_) (fun hb=>?_))))))))))))))))
  · have e : (!((!(decide (r.2 = 0) == decide (r.2 = 0))) || ((!decide (r.2 = 0)) && (!decide (r.2 = 7))))) = true := by
      rcases r3 with e | e<;>rw [e]<;>rfl
    dsimp only;rw [e];exact Qqx (Eh hrl (by decide))
  · rcases r3 with e | e<;>simp [e]
  · rw [decide_eq_true rfl];exact Qff (Eh hql (by decide))
  · rw [decide_eq_true rfl];exact Qkf t (by omega)
  · refine Ea (b:=true) ?_ (Eb ?_)
    · rw [decide_eq_true rfl];exact Qff (Eh hql (by decide))
    · rw [decide_eq_true rfl];rfl
  have hc:(ZD t).2=0:=by simpa using hb
  have hRt:=QEu hc;have hsz:=Qxs hNm;obtain ⟨q',p1,_,_,p3⟩:=Qpo (s:=Z2 t) (by omega);have hsp:XB 32 (Qq (Z2 t))=(words t).map Qq:=by
    have hno:∀ w∈words t,(32:Int)∉Qq w:=by
      intro w hw;have key:∀ w∈Yb t,(32:Int)∉Qq w:=by
        intro w hw;rcases En.1 hw with rfl | hw
        · rw [Qah];exact Qst _
        · obtain ⟨y,_,rfl⟩:=List.mem_map.1 hw;rw [YC];exact Qln _
      unfold words at hw;split at hw
      · rcases List.mem_append.1 hw with hw | hw
        · exact key w hw
        · rw [List.mem_singleton.1 hw];show (32:Int)∉([114,111,117,110,100]:List Int);decide
      · exact key w hw
    unfold Z2;cases hw:words t with
    | nil=>exact absurd hw (by unfold words Yb;split<;>simp)
    | cons a l=>rw [hw] at hno;exact Qrk l a hno
  have p3:=p3 t hRt hsp;subst p3;obtain ⟨e,he,he0⟩:=QEc t (x:=x) (by omega);refine Ea p1 (Ea (b:=true) (Qff hvt) (Ea (b:=e) he (Runs.bif (fun hb=>?_) (fun hb=>?_))))
  · exact Ea (b:=true) (Qff hvt) (Eb rfl)
  have he1:e=0:=by simpa using hb
  obtain ⟨k1,k2,k3,k4⟩:=he0 he1;have hmod:=hRt.n t.Nc (by simp [Xw]);have hw1:=hRt.w;have hm1:=hRt.m;obtain ⟨r',u1,_,_,_,u4⟩:=Qpn (s:=Qao x) (by have:=Qxr (x:=x) (by omega) hC;omega);have hsr:XB 32 (Qq (Qao x))=[Yn x.Seen,Xj x.Count]:=by
    unfold Qao;rw [JM,JM,Qlf,YC,Qah,List.append_assoc];show XB 32 (Yn x.Seen++32::Xj x.Count)=_;rw [J6 (Qst _),JB (Qln _)]
  have u4:=u4 x.Seen x.Count hsr (fun e=>by rw [e] at k1;simp at k1;omega) (fun v hv=>isS_iff.1 (k2 v hv)) k3 (by rw [Xs (by omega)] at k4;omega);subst u4;refine Ea u1 (Ea (b:=true) (Qqx hsx) (Eb rfl))
end Go.Gw
