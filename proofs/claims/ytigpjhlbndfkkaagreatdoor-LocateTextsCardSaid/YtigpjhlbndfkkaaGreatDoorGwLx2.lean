/- Laws of the walk. Condition: each theorem says its own. -/
import Derived.Test.YtigpjhlbndfkkaaGreatDoorGwPl
import Derived.Test.YtigpjhlbndfkkaaGreatDoorGwLawLocateTexts
import Derived.Test.YtigpjhlbndfkkaaGreatDoorGwTx2
import Derived.Test.YtigpjhlbndfkkaaGreatDoorGwOpen
set_option linter.unusedVariables false
set_option linter.unusedSimpArgs false
set_option linter.unusedSectionVars false
open Go.Gw.Runs renaming call→Ea,some→Eb,bif_t→Ec,eq→Ee,bif_f→Ef,callR→Ew
open Option renaming bind→Ed,bind_some→En
open Int renaming toNat_natCast→Eg,ofNat_le→EA
open List renaming length_map→Eh,take_append_getElem→Ej,length_take→Ek,all_eq_true→Em,take_of_length_le→Ep,mem_map→Eq_,mem_cons_self→Er,getElem?_eq_getElem→Es,mem_cons_of_mem→Ex,mem_cons→Ez
open ByteArray renaming size_append→Ei
open Bool renaming eq_false_iff→Eo,and_eq_true→Et,or_eq_true→Eu,and_false→Ev,or_false→Ey
section
set_option maxRecDepth 4096
set_option linter.unusedVariables false
set_option linter.unusedSectionVars false
namespace Go.Gw
open Go

def Qbo:List Int->Int
 | []=>0
 | x::xs=>if x=0 then Qbo xs else x
theorem Qxp (l:List Int) (hl:l.length < 1073741824):Z3 l=some (Qbo l):=by
  unfold Z3;rw [Qbs l (fun x=>!decide (x=0)) (fun _ x=>x)]
  · have key : ∀ (l : List Int) k, (XR (X1 (fun x => !decide (x = 0)) (fun _ x => x) k l) fun (_ : Unit) => some 0) = some (Qbo l) := by
      intro l
      induction l with
      | nil=>intro k;rfl
      | cons x xs ih =>
        intro k;by_cases h:x=0
        · simp [X1,Qbo,h];exact ih _
        · simp [X1,Qbo,h,XR]
    simpa using key l 0
  · intro k hk;unfold Qhv;rw [Y1 hk,X0 hk,XZ k (by omega)];rfl
  · unfold Qhv;rw [Y2];rfl
theorem QIc (b:Bool) (e:Int):YV b e=some (bif b then 0 else e):=by cases b<;>rfl
theorem QIn (n lo hi:Int):Zk n lo hi=some (decide (lo<=n)&&decide (n<=hi)):=rfl
theorem Qdw (n lo hi:Int):ZC n lo hi=some (decide (lo<=n)&&decide (n<=hi)):=rfl

def Y0 (n:Int):Bool:=decide (n=0)||decide (n=1)
def JW (n:Int):Bool:=Y0 n||decide (n=2)
theorem isB_iff {n:Int}:Y0 n=true↔n=0\/n=1:=by simp [Y0]
theorem isS_iff {n:Int}:JW n=true↔n=0\/n=1\/n=2:=by simp [JW,Y0,or_assoc]
theorem Qyu (n:Int):(decide (0<=n)&&decide (n<=1))=Y0 n:=by
 rw [Bool.eq_iff_iff];simp [Y0];omega
theorem Qyv (n:Int):(decide (0<=n)&&decide (n<=2))=JW n:=by
 rw [Bool.eq_iff_iff];simp [JW,Y0];omega

theorem srch_none {α ρ:Type} {p:α->Bool} {res:Nat->α->ρ}:∀ {l:List α} {k:Nat},X1 p res k l=.inr ()↔∀ x∈l,p x=false:=by
 intro l
 induction l with
 | nil=>intro k;simp [X1]
 | cons x xs ih =>
  intro k;cases h:p x with
  | true=>simp [X1,h]
  | false=>simp [X1,h,ih]
theorem Qro {α ρ:Type} {p:α->Bool} {res:Nat->α->ρ}:∀ {l:List α} {k:Nat} {r:ρ}, X1 p res k l=.inl r->∃ (j:Nat) (hj:j < l.length), p l[j]=true/\r=res (k+j) l[j]/\∀ i (hi:i < j), p (l[i]'(by omega))=false := by
 intro l
 induction l with
 | nil=>intro k r h;simp [X1] at h
 | cons x xs ih =>
  intro k r h;cases hp:p x with
  | true =>
   simp [X1,hp] at h;exact ⟨0,by simp,by simpa using hp,by simp [h],fun i hi=>by omega⟩
  | false =>
   simp [X1,hp] at h;obtain ⟨j,hj,h1,h2,h3⟩:=ih h;refine ⟨j+1,by simpa using hj,by simpa using h1,by rw [h2];simp;congr 1;omega,fun i hi=>?_⟩;cases i with
   | zero=>simpa using hp
   | succ i=>simpa using h3 i (by omega)

def Qfd (t:Na):Bool :=
 (decide (1<=t.Nd)&&decide (t.Nd<=1000))&&(decide (1<=t.Nf)&&decide (t.Nf<=12))&&(decide (0<=t.Ng)&&decide (t.Ng<=999000000))&&(decide (1<=t.Nc)&&decide (t.Nc<=1000))&&(decide (0<=t.Nh)&&decide (t.Nh<=t.Nc))&&(decide (0<=t.Errors)&&decide (t.Errors<=t.Nb))
def ZD (t:Na):Int×Int :=
 if ¬ (1<=t.Nb/\t.Nb<=12) then (0,2) else if (t.Nj.length:Int) < t.Nb then (0,10) else if 40 < (t.Nj.length:Int) then (0,8) else
  match X1 (fun v=>!Y0 v) (fun k _=>(k:Int)) 0 t.Nj with
  | .inl k=>(k,15)
  | .inr _=>if Qfd t then (0,0) else (0,2)

theorem Qtn (l:List Int) (hl:l.length < 1073741824):Qfi l=some (match X1 (fun v=>!Y0 v) (fun k _=>(k:Int)) 0 l with | .inl k=>k | .inr _=>-1):=by
 unfold Qfi;rw [Qbs l (fun v=>!Y0 v) (fun k _=>(k:Int))]
 ·cases X1 (fun v=>!Y0 v) (fun k _=>(k:Int)) 0 l<;>rfl
 ·intro k hk;unfold Qiy;rw [Y1 hk,X0 hk,XZ k (by omega)];rfl
 ·unfold Qiy;rw [Y2];rfl

theorem Qtl (t:Na) (hl:t.Nj.length < 1073741824):Qbq t=some (ZD t):=by
 unfold Qbq;simp only [QIn,QIc,En];rw [Qxp _ (by simp),Qtn _ hl];simp only [En,Qbo];unfold ZD;by_cases h1:1<=t.Nb/\t.Nb<=12
 ·simp only [h1.1,h1.2,decide_true,Bool.and_self,cond_true,if_true,and_self,not_true_eq_false,if_false];by_cases h2:(t.Nj.length:Int) < t.Nb
  ·have h2':¬ t.Nb<=(t.Nj.length:Int):=by omega
   simp [h2,h2']
  ·have h2':t.Nb<=(t.Nj.length:Int):=by omega
   simp only [h2,h2',decide_true,cond_true,if_true,if_false];by_cases h3:40 < (t.Nj.length:Int)
   ·have h3':¬ (t.Nj.length:Int)<=40:=by omega
    simp [h3,h3']
   ·have h3':(t.Nj.length:Int)<=40:=by omega
    simp only [h3,h3',decide_true,cond_true,if_true,if_false,Bool.not_true,cond_false];cases hs:X1 (fun v=>!Y0 v) (fun k _=>(k:Int)) 0 t.Nj with
    | inl k =>
     obtain ⟨j,hj,_,hk,_⟩:=Qro hs;have:0<=k:=by rw [hk];omega
     simp [this]
    | inr u =>
     simp only [show decide ((0:Int)<=-1)=false by decide,cond_false];unfold Qfd;generalize (decide (1<=t.Nd)&&decide (t.Nd<=1000))=b1;generalize (decide (1<=t.Nf)&&decide (t.Nf<=12))=b2;generalize (decide (0<=t.Ng)&&decide (t.Ng<=999000000))=b3;generalize (decide (1<=t.Nc)&&decide (t.Nc<=1000))=b4;generalize (decide (0<=t.Nh)&&decide (t.Nh<=t.Nc))=b5;generalize (decide (0<=t.Errors)&&decide (t.Errors<=t.Nb))=b6;cases b1<;>cases b2<;>cases b3<;>cases b4<;>cases b5<;>cases b6<;>rfl
 ·have h1':(decide (1<=t.Nb)&&decide (t.Nb<=12))=false:=by rw [Eo];simp;omega
  simp [h1,h1']

theorem QDy (t:Na) (hl:t.Nj.length < 1073741824):Qew t=some (ZD t):=by
  unfold Qew;rw [Qbs t.Nj (fun v=>!Y0 v) (fun k _=>((k:Int),(15:Int)))]
  · simp only [Qdw,En];unfold ZD;by_cases h1:1<=t.Nb/\t.Nb<=12
    · simp only [h1.1,h1.2,decide_true,Bool.and_self,Bool.not_true,cond_false,and_self,not_true_eq_false,if_false];by_cases h2:(t.Nj.length:Int) < t.Nb
      · simp [h2]
      · simp only [h2,decide_false,cond_false,if_false];by_cases h3:40 < (t.Nj.length:Int)
        · simp [h3]
        · simp only [h3,decide_false,cond_false,if_false];have e:∀ (l:List Int) (k:Nat),X1 (fun v=>!Y0 v) (fun k _=>((k:Int),(15:Int))) k l=match X1 (fun v=>!Y0 v) (fun k _=>(k:Int)) k l with | .inl k=>.inl (k,15) | .inr u=>.inr u:=by
            intro l
            induction l with
            | nil=>intro k;rfl
            | cons x xs ih =>
              intro k;simp only [X1];split
              · rfl
              · exact ih _
          rw [e];cases X1 (fun v=>!Y0 v) (fun k _=>(k:Int)) 0 t.Nj with
          | inl k=>rfl
          | inr u =>
            simp only [XR];unfold Qfd;generalize (decide (1<=t.Nd)&&decide (t.Nd<=1000))=b1;generalize (decide (1<=t.Nf)&&decide (t.Nf<=12))=b2;generalize (decide (0<=t.Ng)&&decide (t.Ng<=999000000))=b3;generalize (decide (1<=t.Nc)&&decide (t.Nc<=1000))=b4;generalize (decide (0<=t.Nh)&&decide (t.Nh<=t.Nc))=b5;generalize (decide (0<=t.Errors)&&decide (t.Errors<=t.Nb))=b6;cases b1<;>cases b2<;>cases b3<;>cases b4<;>cases b5<;>cases b6<;>rfl
    · have h1':(decide (1<=t.Nb)&&decide (t.Nb<=12))=false:=by rw [Eo];simp;omega
      simp [h1,h1']
  · intro k hk;unfold Qim;rw [Y1 hk,X0 hk,XZ k (by omega)];simp only [Qdw,En,cond_true,Qyu]
  · unfold Qim;rw [Y2];rfl
theorem Qkf (t:Na) (hl:t.Nj.length < 1073741824):Qbv t=some (ZD t).2:=by
 unfold Qbv;rw [QDy t hl];rfl
theorem Qjz (l:List Int) (hl:l.length < 1073741824):Qcr l=some l:=by
 unfold Qcr;rw [YM (by simp;omega)];simp
theorem Qtm (t:Na) (hl:t.Nj.length < 1073741824):Qdf t=some t:=by
 unfold Qdf;rw [Qjz _ hl];rfl

end Go.Gw

end
section
set_option maxRecDepth 4096
set_option linter.unusedVariables false
set_option linter.unusedSectionVars false
namespace Go.Gw
open Go
attribute [local irreducible] loop
/-! ### Nj are written -/
def vb (n:Int):Int:=if n=0 then 48 else if n=1 then 49 else 63
def Yn (l:List Int):List Int:=l.map vb
def Zp (l:List Int):ByteArray:=X3 (Yn l)
theorem Qsv (n:Int):vb n=48\/vb n=49\/vb n=63:=by
 unfold vb;split
 ·exact .inl rfl
 ·split
  ·exact .inr (.inl rfl)
  ·exact .inr (.inr rfl)
theorem Qah (l:List Int):Qq (Zp l)=Yn l:=Qgx fun x hx=>by
 obtain ⟨n,_,rfl⟩:=Eq_.1 hx;have:=Qsv n;omega
theorem Qdo (l:List Int):(Zp l).size=l.length:=by rw [<-Xx,Qah,Yn,Eh]
theorem Qss {l:List Int} {k:Nat} (hk:k < l.length):Yn (l.take (k+1))=Yn (l.take k)++[vb l[k]]:=by
 rw [<-Ej hk,Yn,List.map_append];rfl
theorem Qko {xs:List Int} {x:Int} (h:xs.length<=1000):Xz (xs:List U8) ([x]:List Int)=some (xs++[x]:List Int):=YM (by simp;omega)
theorem Qsu {l:List Int} (h:l.length<=1000):Qdc l=some (Zp l):=by
 unfold Qdc;have hl:∀ k,(Yn (l.take k)).length<=1000:=fun k=>by rw [Yn,Eh,Ek];omega
 have hz:∀ k,k < l.length->∀ x,vb (l[k]?.getD 0)=x->(.inl (w64 ((k:Int)+1),(Yn (l.take k)++[x]:List Int)):(Int×List Int)⊕List Int)=.inl (((k+1:Nat):Int),Yn (l.take (k+1))):=fun k hk x hx=>by
  rw [XZ k (by omega),Qss hk,<-hx,Es hk];rfl
 have h1:loop (Qeo l) (0,([]:List U8))=some (Yn l):=by
  refine (Qic (o:=(Yn l:List U8)) (fun k=>((k:Int),(Yn (l.take k):List U8))) l.length (fun k hk=>?_) ?_)
  ·refine Ee ?_;unfold Qeo;have hq:l[k]?.getD 0=l[k]:=by rw [Es hk];rfl
   refine Ec (Y1 hk) (Ea (X0 hk) (Ea (b:=Y0 l[k]) rfl (Runs.bif (fun hb=>?_) (fun hb=>?_))))
   ·refine Ea (Qko (hl k)) (Eb (hz k hk _ ?_));rw [hq];rcases isB_iff.1 hb with e | e
    ·rw [e];rfl
    ·rw [e];rfl
   ·refine Ea (Qko (hl k)) (Eb (hz k hk _ ?_));rw [hq];unfold vb;rw [if_neg (fun e=>by rw [e] at hb;cases hb),if_neg (fun e=>by rw [e] at hb;cases hb)]
  ·refine Ee ?_;unfold Qeo;refine Ef (Y2 _) (Eb ?_);show (.inr (Yn (l.take l.length)):(Int×List Int)⊕List Int)=.inr (Yn l);rw [List.take_length]
 rw [h1];rfl
theorem QIh {l:List Int} {k:Nat} (hk:k < l.length) {b:ByteArray} (hb:Qq b=[vb l[k]]):Zp (l.take k)++b=Zp (l.take (k+1)) :=
 JN (by rw [JM,Qah,Qah,Qss hk,hb])
theorem Qlr {l:List Int} (h:l.length<=1000):Qdg l=some (Zp l):=by
 unfold Qdg;have h1:loop (Qfc l) ((ByteArray.mk #[]),0)=some (Zp l):=by
  refine (Qic (o:=Zp l) (fun k=>(Zp (l.take k),(k:Int))) l.length (fun k hk=>?_) ?_)
  ·refine Ee ?_;unfold Qfc;have hl:(Zp (l.take k)).size<=1000:=by rw [Qdo,Ek];omega
   have key:∀ (c:UInt8),((c.toNat:Nat):Int)=vb l[k]->Runs ((Y6 (Zp (l.take k)) (ByteArray.mk #[c])).bind fun q=>some (.inl (q,w64 ((k:Int)+1)))) (·=(.inl (Zp (l.take (k+1)),((k+1:Nat):Int)):(ByteArray×Int)⊕ByteArray)):=fun c hc=>by
    have hz:(ByteArray.mk #[c]).size=1:=rfl;refine Ea (Jj (by omega)) (Eb ?_);have hb:Qq (ByteArray.mk #[c])=[vb l[k]]:=by rw [<-hc];rfl
    rw [QIh hk hb,XZ k (by omega)]
   refine Ec (Y1 hk) (Ea (X0 hk) (Runs.bif (fun hb=>?_) (fun hb=>Runs.bif (fun hb2=>?_) (fun hb2=>?_))))
   ·exact key 48 (by rw [of_decide_eq_true hb];rfl)
   ·exact key 49 (by rw [of_decide_eq_true hb2];rfl)
   ·refine key 63 ?_;unfold vb;rw [if_neg (of_decide_eq_false hb),if_neg (of_decide_eq_false hb2)];rfl
  ·refine Ee ?_;unfold Qfc;refine Ef (Y2 _) (Eb ?_);rw [List.take_length]
 rw [h1];rfl
/-! ### Nj are read -/
def Yg (u:Bool) (c:Int):Bool:=decide (c=48)||(decide (c=49)||(decide (c=63)&&u))
def vd (c:Int):Int:=if c=48 then 0 else if c=49 then 1 else 2
def XS (u:Bool) (l:List Int):List Int×Bool:=if l.all (Yg u)=true then (l.map vd,decide (0 < l.length)) else ([],false)
theorem Qyc {s:ByteArray} {k:Nat} (hk:k < (Qq s).length):(((s.get! k).toNat:Nat):Int)=(Qq s)[k]:=by
 cases s with
 | mk d =>
  have hk2:k < d.size:=by simpa [Qq] using hk
  simp [Qq,ByteArray.get!,hk2]
theorem QFh {s:ByteArray} {k:Nat} (hk:k < (Qq s).length):((Qq s)[k] < 128/\XH s (k:Int)=(Qq s)[k]/\Z4 s (k:Int)=((k+1:Nat):Int))\/(128<=(Qq s)[k]/\128<=XH s (k:Int)):=by
 have hg:=Qyc hk;have hks:(k:Int) < (s.size:Int):=by rw [Xx] at hk;omega
 by_cases h:(s.get! k).toNat < 128
 ·refine .inl ⟨by omega,?_,?_⟩
  ·unfold XH Utf8.decode;simp only [Eg,Nat.add_zero,h,if_true];exact hg
  ·unfold Z4 Utf8.decode;simp only [Eg,Nat.add_zero,h,if_true,hks];rfl
 ·refine .inr ⟨by omega,?_⟩;unfold XH Utf8.decode;simp only [Eg,Nat.add_zero,h,if_false];have hr:(128:Int)<=((Utf8.runeError:Nat):Int):=by decide
  split
  ·split
   ·rename_i h2;exact EA.2 h2
   ·exact hr
  ·split
   ·split
    ·rename_i h2;rw [Et,decide_eq_true_eq] at h2;exact EA.2 (Nat.le_trans (by decide) h2.1)
    ·exact hr
   ·split
    ·split
     ·rename_i h2;rw [Et,decide_eq_true_eq] at h2;exact EA.2 (Nat.le_trans (by decide) h2.1)
     ·exact hr
    ·exact hr
end Go.Gw

end
section
set_option maxRecDepth 4096
set_option linter.unusedVariables false
set_option linter.unusedSectionVars false
namespace Go.Gw
open Go
attribute [local irreducible] loop
theorem Qcq {u:Bool} {l:List Int} {k:Nat} (hk:k < l.length) (h:(l.take k).all (Yg u)=true) (h2:Yg u l[k]=true):(l.take (k+1)).all (Yg u)=true:=by
 rw [<-Ej hk,List.all_append,h,Bool.true_and,List.all_cons,h2];rfl
theorem Qkn {u:Bool} {l:List Int} {k:Nat} (hk:k < l.length) (h2:Yg u l[k]=false):l.all (Yg u)=false:=by
 rw [Eo];intro h;rw [Em.1 h _ (List.getElem_mem hk)] at h2;cases h2
theorem Qid {l:List Int} {k:Nat} (hk:k < l.length):(l.take (k+1)).map vd=(l.take k).map vd++[vd l[k]]:=by
 rw [<-Ej hk,List.map_append];rfl
theorem Qev {s:ByteArray} {u:Bool} (hs:s.size<=1000):Qbr s u=some (XS u (Qq s)):=by
 refine Ee ?_;have hlen:=Xx s;unfold Qbr;refine Ew (R:=fun o=>o=if (Qq s).all (Yg u)=true then .inr ((Qq s).map vd) else .inl ([],false)) (Runs.loop (fun x=>∃ k:Nat,x=(((Qq s).take k).map vd,(k:Int))/\k<=s.size/\((Qq s).take k).all (Yg u)=true) (fun x=>s.size - x.2.toNat) ⟨0,by simp,Nat.zero_le _,by simp⟩ ?_) ?_
 ·rintro _ ⟨k,rfl,hk,ha⟩;unfold Qnu;by_cases hi:k < s.size
  ·have hg:k < (Qq s).length:=by omega
   have hl:(((Qq s).take k).map vd).length<=1000:=by rw [Eh,Ek];omega
   have hm:s.size - (((k+1:Nat):Int)).toNat < s.size - ((k:Nat):Int).toNat:=by rw [Eg,Eg];omega
   refine Ec (Y1 hi) ?_;have bad:Yg u (Qq s)[k]=false->(if (Qq s).all (Yg u)=true then (.inr ((Qq s).map vd):(List Int×Bool)⊕List Int) else .inl ([],false))=.inl ([],false):=fun h=>by
    rw [Qkn hg h,if_neg (by decide)]
   rcases QFh hg with ⟨h1,h2,h3⟩ | ⟨h1,h2⟩
   ·rw [h2,h3];refine Runs.bif (fun hb=>?_) (fun hb=>Runs.bif (fun hb2=>?_) (fun hb2=>?_))
    ·refine Ea (YM (by simp;omega)) (Eb ⟨⟨k+1,?_,hi,Qcq hg ha ?_⟩,hm⟩)
     ·rw [Qid hg];rw [Eu,decide_eq_true_eq,decide_eq_true_eq] at hb;rcases hb with e | e
      ·rw [e];rfl
      ·rw [e];rfl
     ·unfold Yg;rw [Eu] at hb;rcases hb with e | e
      ·rw [e];rfl
      ·rw [e];simp
    ·refine Ea (YM (by simp;omega)) (Eb ⟨⟨k+1,?_,hi,Qcq hg ha ?_⟩,hm⟩)
     ·rw [Qid hg];rw [Et,decide_eq_true_eq] at hb2;rw [hb2.1];rfl
     ·unfold Yg;rw [hb2];simp
    ·refine Eb (bad ?_).symm;unfold Yg;rw [<-Bool.or_assoc,hb,hb2];rfl
   ·refine Ef ?_ (Ef ?_ (Eb (bad ?_).symm))
    ·rw [decide_eq_false (by omega),decide_eq_false (by omega)];rfl
    ·rw [decide_eq_false (by omega)];rfl
    ·unfold Yg;rw [decide_eq_false (by omega),decide_eq_false (by omega),decide_eq_false (by omega)];rfl
  ·obtain rfl:k=s.size:=by omega
   refine Ef (Y2 _) (Eb ?_);rw [Ep (by omega)] at ha ⊢;show _=_;rw [ha,if_pos rfl]
 ·rintro _ rfl;unfold XS;by_cases h:(Qq s).all (Yg u)=true
  ·rw [if_pos h,if_pos h];refine Runs.jr (Eb ?_);congr 1;by_cases h0:s=ByteArray.mk #[]
   ·rw [decide_eq_true h0,h0];rfl
   ·have:(Qq s).length≠0:=fun e=>h0 (JN (by rw [List.length_eq_zero_iff.1 e];rfl))
    rw [decide_eq_false h0,decide_eq_true (by omega)];rfl
  ·rw [if_neg h,if_neg h];exact Runs.jl rfl
theorem Qqz {s:ByteArray} (hs:s.size<=1000):Qbw s=some (XS true (Qq s)):=by
 refine Ee ?_;have hlen:=Xx s;unfold Qbw;refine Ew (R:=fun o=>o=if (Qq s).all (Yg true)=true then .inr ((Qq s).map vd) else .inl ([],false)) (Runs.loop (fun x=>∃ k:Nat,x=(((Qq s).take k).map vd,(k:Int))/\k<=s.size/\((Qq s).take k).all (Yg true)=true) (fun x=>s.size - x.2.toNat) ⟨0,by simp,Nat.zero_le _,by simp⟩ ?_) ?_
 ·rintro _ ⟨k,rfl,hk,ha⟩;unfold Qqd;by_cases hi:k < s.size
  ·have hg:k < (Qq s).length:=by omega
   have hl:(((Qq s).take k).map vd).length<=1000:=by rw [Eh,Ek];omega
   have hm:s.size - (w64 ((k:Int)+1)).toNat < s.size - ((k:Nat):Int).toNat:=by rw [XZ k (by omega),Eg,Eg];omega
   have good:∀ v,vd (Qq s)[k]=v->(((Qq s).take k).map vd++[v],w64 ((k:Int)+1))=(((Qq s).take (k+1)).map vd,((k+1:Nat):Int)):=fun v hv=>by rw [Qid hg,XZ k (by omega),hv]
   refine Ec (Y1 hi) (Ea (Ji hg) (Runs.bif (fun hb=>?_) (fun hb=>Runs.bif (fun hb2=>?_) (fun hb2=>Runs.bif (fun hb3=>?_) (fun hb3=>?_)))))
   ·refine Ea (YM (by simp;omega)) (Eb ⟨⟨k+1,good _ ?_,hi,Qcq hg ha ?_⟩,hm⟩)
    ·rw [of_decide_eq_true hb];rfl
    ·rw [of_decide_eq_true hb];rfl
   ·refine Ea (YM (by simp;omega)) (Eb ⟨⟨k+1,good _ ?_,hi,Qcq hg ha ?_⟩,hm⟩)
    ·rw [of_decide_eq_true hb2];rfl
    ·rw [of_decide_eq_true hb2];rfl
   ·refine Ea (YM (by simp;omega)) (Eb ⟨⟨k+1,good _ ?_,hi,Qcq hg ha ?_⟩,hm⟩)
    ·rw [of_decide_eq_true hb3];rfl
    ·rw [of_decide_eq_true hb3];rfl
   ·refine Eb ?_;show _=_;rw [Qkn hg (u:=true) (by unfold Yg;rw [hb,hb2,hb3];rfl),if_neg (by decide)]
  ·obtain rfl:k=s.size:=by omega
   refine Ef (Y2 _) (Eb ?_);rw [Ep (by omega)] at ha ⊢;show _=_;rw [ha,if_pos rfl]
 ·rintro _ rfl;unfold XS;by_cases h:(Qq s).all (Yg true)=true
  ·rw [if_pos h,if_pos h];refine Runs.jr (Eb ?_);rw [Eh];by_cases h1:0 < (Qq s).length
   ·rw [decide_eq_true h1,decide_eq_true (by omega)]
   ·rw [decide_eq_false h1,decide_eq_false (by omega)]
  ·rw [if_neg h,if_neg h];exact Runs.jl rfl
theorem Qrn {α ρ:Type} {p:α->Bool} {res:Nat->α->ρ}:∀ (l:List α) (k:Nat),(X1 p res k l=.inr ()/\l.any p=false)\/∃ j x,X1 p res k l=.inl (res j x)/\l.any p=true
 | [],k=>.inl ⟨rfl,rfl⟩
 | x::xs,k=>by
  by_cases h:p x=true
  ·exact .inr ⟨k,x,by simp [X1,h],by simp [h]⟩
  ·rcases Qrn xs (k+1) (p:=p) (res:=res) with ⟨h1,h2⟩ | ⟨j,y,h1,h3⟩
   ·exact .inl ⟨by simp [X1,h,h1],by simp [h,h2]⟩
   ·exact .inr ⟨j,y,by simp [X1,h,h1],by simp [h3]⟩
theorem Qmh {l:List Int} {n:Int} (hl:l.length<=1000):Qcu l n=some (l.any fun x=>decide (x=n)):=by
 unfold Qcu;rw [Qbs l (fun x=>decide (x=n)) (fun _ _=>true)]
 ·rcases Qrn (p:=fun x=>decide (x=n)) (res:=fun _ _=>true) l 0 with ⟨h1,h2⟩ | ⟨j,x,h1,h2⟩
  ·rw [h1,h2];rfl
  ·rw [h1,h2];rfl
 ·intro k hk;unfold Qgo;rw [Y1 hk,cond_true,X0 hk,En,XZ k (by omega)]
 ·unfold Qgo;rw [Y2];rfl
theorem QEb (l:List Int):((XS true l).2&&!((XS true l).1.any fun x=>decide (x=2)))=(XS false l).2/\((XS false l).2=true->(XS true l)=(XS false l)):=by
  by_cases h:l.all (Yg false)=true
  · have h1 : l.all (Yg true) = true := Em.2 fun x hx => by
      have:=Em.1 h x hx;unfold Yg at this ⊢;rw [Ev,Ey] at this;rw [<-Bool.or_assoc,this];rfl
    have h2:((l.map vd).any fun x=>decide (x=2))=false:=by
      rw [List.any_eq_false];intro x hx;obtain ⟨c,hc,rfl⟩:=Eq_.1 hx;have:=Em.1 h c hc;unfold Yg at this;rw [Ev,Ey,Eu,decide_eq_true_eq,decide_eq_true_eq] at this;rcases this with rfl | rfl
      · decide
      · decide
    unfold XS;rw [if_pos h,if_pos h1];refine ⟨?_,fun _=>rfl⟩;dsimp only;rw [h2];simp
  · have hf:XS false l=([],false):=by unfold XS;rw [if_neg h]
    rw [hf];refine ⟨?_,(fun e=>by cases e)⟩;by_cases h1:l.all (Yg true)=true
    · have h2 : ((l.map vd).any fun x => decide (x = 2)) = true := by
        have h3:∃ c∈l,Yg false c=false:=by
          have:=Eo.2 h;rw [List.all_eq_false] at this;obtain ⟨c,hc,h4⟩:=this;exact ⟨c,hc,by simpa using h4⟩
        obtain ⟨c,hc,h4⟩:=h3;have h5:=Em.1 h1 c hc;rw [List.any_eq_true];refine ⟨vd c,List.mem_map_of_mem hc,?_⟩;unfold Yg at h4 h5;unfold vd;rw [Ev,Ey,Bool.or_eq_false_iff,decide_eq_false_iff_not,decide_eq_false_iff_not] at h4;rw [if_neg h4.1,if_neg h4.2];rfl
      unfold XS;rw [if_pos h1];dsimp only;rw [h2];simp
    · unfold XS;rw [if_neg h1];rfl
theorem Qpv {u:Bool} {l:List Int} (h0:l≠[]) (h:∀ x∈l,x=0\/x=1\/(x=2/\u=true)):XS u (Yn l)=(l,true):=by
 have h1:(Yn l).all (Yg u)=true:=Em.2 fun c hc=>by
  obtain ⟨x,hx,rfl⟩:=Eq_.1 hc;rcases h x hx with rfl | rfl | ⟨rfl,rfl⟩
  ·rfl
  ·rfl
  ·rfl
 have h2:(Yn l).map vd=l:=by
  unfold Yn;rw [List.map_map]
  conv=>rhs;rw [<-List.map_id l]
  refine List.map_congr_left fun x hx=>?_;rcases h x hx with rfl | rfl | ⟨rfl,rfl⟩
  ·rfl
  ·rfl
  ·rfl
 unfold XS;rw [if_pos h1,h2,decide_eq_true (by unfold Yn;rw [Eh];exact List.length_pos_iff.2 h0)]
/-! ### Numbers -/
def NR (l:List Int) (d:Nat) (r:Int×Bool):Prop :=
 (r.2=true/\0<=r.1/\l=Xj r.1/\l.length<=d)\/(r.2=false/\∀ n,0<=n->l=Xj n->d < l.length)
theorem Qlm (n:Int):∃ c t,Xj n=c::t:=by
 unfold Xj;split
 ·exact ⟨_,_,rfl⟩
 ·obtain ⟨x,l,h,_⟩:=JO n.natAbs;exact ⟨x,l,h⟩
theorem QEo {s:ByteArray} {d:Nat} (hd:d<=18) (hs:s.size<=1000):Runs (YR s (d:Int)) (NR (Qq s) d):=by
 unfold YR;refine Ew (QDj hd (by omega)) ?_;rintro r hr;rcases hr with ⟨n,rfl,hn,hl⟩ | ⟨rfl,hno⟩
 ·obtain ⟨c,t,hc⟩:=Qlm n;have hlen:0 < (Qq s).length:=by rw [hn,hc];simp
  have hi:idx (α:=Int) (bl s) 0=some c:=by
   have:=Ji (s:=s) (k:=0) hlen;rw [show ((0:Nat):Int)=0 from rfl] at this;rw [this];simp [hn,hc]
  refine Ea (b:=c) hi (Eb ?_);rcases Qdy hc.symm with ⟨h1,h2,_⟩ | ⟨h1,h2,_⟩
  ·refine .inr ⟨by rw [decide_eq_true h1];rfl,fun m hm e=>?_⟩;rw [hn] at e;have:=Qha e;omega
  ·refine .inl ⟨by rw [decide_eq_false h1];rfl,h2,hn,?_⟩;have:Zm n=0:=by unfold Zm;rw [if_neg (by omega)]
   omega
 ·refine Ea (b:=(0:Int)) rfl (Eb (.inr ⟨rfl,fun n h0 e=>?_⟩));have h1:=hno n e;omega
theorem Qzk {s:ByteArray} {d:Nat} (hd:d<=18) (hs:s.size<=1000):Runs (Ym s (d:Int)) (NR (Qq s) d):=by
  have hlen:=Xx s;obtain ⟨⟨v,e⟩,hAt,hv,hdec⟩:=Que (s:=s) (by omega);unfold Ym;refine Ea hAt ?_;by_cases he:e=0/\0<=v
  · have h1:(decide (e=0)&&decide (0<=v))=true:=by rw [decide_eq_true he.1,decide_eq_true he.2];rfl
    refine Ea (b:=Y7 v) (by dsimp only;rw [h1];exact Qhk hv) (Eb ?_);dsimp only;by_cases hb:Y7 v=s
    · have hn:Qq s=Xj v:=by rw [<-hb,YC]
      by_cases hd2:s.size<=d
      · exact .inl ⟨by dsimp only;rw [h1,decide_eq_true hb,decide_eq_true (by omega)];rfl,he.2,hn,by omega⟩
      · exact .inr ⟨by dsimp only;rw [decide_eq_false (p:=((s.size:Nat):Int)<=(d:Int)) (by omega)];simp,fun _ _ _=>by omega⟩
    · refine .inr ⟨by dsimp only;rw [decide_eq_false hb];simp,fun n h0 hn=>?_⟩;refine Decidable.byContradiction fun hlt=>?_;have h2:=hdec n hn (by omega);rw [Prod.mk.injEq] at h2;exact hb (JN (by rw [YC,hn,h2.1]))
  · have h1 : (decide (e = 0) && decide (0 <= v)) = false := by
      rw [Bool.and_eq_false_iff,decide_eq_false_iff_not,decide_eq_false_iff_not];by_cases h:e=0
      · exact .inr fun h2=>he ⟨h,h2⟩
      · exact .inl h
    refine Ea (b:=default) (by dsimp only;rw [h1];rfl) (Eb (.inr ⟨by dsimp only;rw [h1];rfl,fun n h0 hn=>?_⟩));refine Decidable.byContradiction fun hlt=>?_;have h2:=hdec n hn (by omega);rw [Prod.mk.injEq] at h2;exact he ⟨h2.2,by omega⟩
theorem Zc (s:ByteArray) (d:Nat) (hd:d<=18) (hs:s.size<=1000):∃ b n n',Ym s (d:Int)=some (n,b)/\YR s (d:Int)=some (n',b)/\(b=true->n'=n/\0<=n/\Qq s=Xj n)/\∀ m,0<=m->Qq s=Xj m->(Qq s).length<=d->b=true/\n=m:=by
 obtain ⟨⟨n,b⟩,h1,h2⟩:=Qzk hd hs;obtain ⟨⟨n',b'⟩,h3,h4⟩:=QEo hd hs;rcases h2 with ⟨e1,e2,e3,e4⟩ | ⟨e1,e2⟩
 ·dsimp only at e1 e2 e3;subst e1;rcases h4 with ⟨f1,f2,f3,f4⟩ | ⟨f1,f2⟩
  ·dsimp only at f1 f2 f3;subst f1;have:n'=n:=Qha (f3.symm.trans e3);exact ⟨true,n,n',h1,h3,fun _=>⟨this,e2,e3⟩,fun m h0 hm _=>⟨rfl,Qha (e3.symm.trans hm)⟩⟩
  ·have:=f2 n e2 e3;omega
 ·dsimp only at e1;subst e1;rcases h4 with ⟨f1,f2,f3,f4⟩ | ⟨f1,f2⟩
  ·have:=e2 n' f2 f3;omega
  ·dsimp only at f1;subst f1;exact ⟨false,n,n',h1,h3,(fun e=>by cases e),fun m h0 hm hl=>by have:=e2 m h0 hm;omega⟩
end Go.Gw

end
section
set_option maxRecDepth 4096
set_option linter.unusedVariables false
set_option linter.unusedSectionVars false
namespace Go.Gw
open Go
attribute [local irreducible] loop
def noT:Na:=⟨[],0,0,0,0,0,0,0,false⟩
def ZK (fl:Bool) (v:List Int×Bool) (B:Bool) (n1 n2 n3 n4 n5 n6 n7:Int):Na×Int :=
 bif v.2&&B then (bif !decide ((ZD ⟨v.1,n1,n2,n3,n4,n5,n6,n7,fl⟩).2=0) then (noT,(ZD ⟨v.1,n1,n2,n3,n4,n5,n6,n7,fl⟩).2) else (⟨v.1,n1,n2,n3,n4,n5,n6,n7,fl⟩,0)) else (noT,7)
noncomputable def Qoc (ws:List ByteArray) (fl:Bool):Option (Na×Int):=(Ed (α:=(Bool×(List Int)×Int×Int×Int×Int×Int×Int×Int)) ( (bif (decide ((ws.length:Int)=8)) then ( (Ed (idx ws 0) fun el373=>(Ed (Qbr el373 false) fun r379=>(Ed (idx ws 1) fun el402=>(Ed (Ym el402 9) fun r408=>(Ed (idx ws 2) fun el427=>(Ed (Ym el427 9) fun r433=>(Ed (idx ws 3) fun el452=>(Ed (Ym el452 9) fun r458=>(Ed (idx ws 4) fun el477=>(Ed (Ym el477 9) fun r483=>(Ed (idx ws 5) fun el502=>(Ed (Ym el502 9) fun r508=>(Ed (idx ws 6) fun el527=>(Ed (Ym el527 9) fun r533=>(Ed (idx ws 7) fun el552=>(Ed (Ym el552 9) fun r558=>some ((((((((r379.2&&r408.2)&&r433.2)&&r458.2)&&r483.2)&&r508.2)&&r533.2)&&r558.2),r379.1,r408.1,r433.1,r458.1,r483.1,r508.1,r533.1,r558.1) ) ) ) ) ) ) ) ) ) ) ) ) ) ) ) ) ) else ( some ((decide ((ws.length:Int)=8)),([]:(List Int)),0,0,0,0,0,0,0) )) ) fun ((x350,x352,x356,x357,x358,x359,x360,x361,x362):Bool×(List Int)×Int×Int×Int×Int×Int×Int×Int)=>(bif (!x350) then ( some ((Na.mk [] 0 0 0 0 0 0 0 false),7) ) else ( (Ed (Qbq (Na.mk x352 x356 x357 x358 x359 x360 x361 x362 fl)) fun r586=>(bif (!decide (r586.2=0)) then ( some ((Na.mk [] 0 0 0 0 0 0 0 false),r586.2) ) else ( some ((Na.mk x352 x356 x357 x358 x359 x360 x361 x362 fl),0) )) ) )) )
theorem Qde (u:Bool) (l:List Int):(XS u l).1.length<=l.length:=by
 unfold XS;split
 ·simp
 ·simp
theorem Qod {w0 w1 w2 w3 w4 w5 w6 w7:ByteArray} {fl b1 b2 b3 b4 b5 b6 b7:Bool} {n1 n2 n3 n4 n5 n6 n7:Int} (h0:w0.size<=1000)
  (h1:Ym w1 9=some (n1,b1)) (h2:Ym w2 9=some (n2,b2)) (h3:Ym w3 9=some (n3,b3)) (h4:Ym w4 9=some (n4,b4)) (h5:Ym w5 9=some (n5,b5)) (h6:Ym w6 9=some (n6,b6)) (h7:Ym w7 9=some (n7,b7)) :
  Qoc [w0,w1,w2,w3,w4,w5,w6,w7] fl=some (ZK fl (XS false (Qq w0)) (b1&&(b2&&(b3&&(b4&&(b5&&(b6&&b7)))))) n1 n2 n3 n4 n5 n6 n7):=by
 have hl:=Qde false (Qq w0);rw [Xx] at hl;generalize hv:XS false (Qq w0)=v at hl;refine Ee ?_;unfold Qoc;refine Ew (R:=fun x=>x=((((((((v.2&&b1)&&b2)&&b3)&&b4)&&b5)&&b6)&&b7),v.1,n1,n2,n3,n4,n5,n6,n7)) (Ec rfl (Ea (b:=w0) rfl (Ea (b:=v) (by rw [<-hv];exact Qev h0) (Ea (b:=w1) rfl (Ea h1 (Ea (b:=w2) rfl (Ea h2 (Ea (b:=w3) rfl (Ea h3 (Ea (b:=w4) rfl (Ea h4 (Ea (b:=w5) rfl (Ea h5 (Ea (b:=w6) rfl (Ea h6 (Ea (b:=w7) rfl (Ea h7 (Eb rfl)))))))))))))))))) ?_;rintro _ rfl;unfold ZK;have e:(((((((v.2&&b1)&&b2)&&b3)&&b4)&&b5)&&b6)&&b7)=(v.2&&(b1&&(b2&&(b3&&(b4&&(b5&&(b6&&b7))))))):=by simp only [Bool.and_assoc]
 dsimp only;rw [e];cases hB:(v.2&&(b1&&(b2&&(b3&&(b4&&(b5&&(b6&&b7))))))) with
 | false=>exact Ec rfl (Eb rfl)
 | true =>
  refine Ef rfl (Ea (Qtl _ (by dsimp only;omega)) (Runs.bif (fun hb=>Eb ?_) (fun hb=>Eb ?_)))
  ·rw [hb];rfl
  ·rw [hb];rfl
theorem QDv {w0 w1 w2 w3 w4 w5 w6 w7:ByteArray} {R:List ByteArray} {b1 b2 b3 b4 b5 b6 b7:Bool} {n1 n2 n3 n4 n5 n6 n7:Int}
  (h1:YR w1 9=some (n1,b1)) (h2:YR w2 9=some (n2,b2)) (h3:YR w3 9=some (n3,b3)) (h4:YR w4 9=some (n4,b4)) (h5:YR w5 9=some (n5,b5)) (h6:YR w6 9=some (n6,b6)) (h7:YR w7 9=some (n7,b7)) :
  loop (Y3 (w0::w1::w2::w3::w4::w5::w6::w7::R)) (0,0,0,0,0,0,0,0)=some (bif (b1&&(b2&&(b3&&(b4&&(b5&&(b6&&b7)))))) then .inr (n1,n2,n3,n4,n5,n6,n7) else .inl (noT,7)):=by
 have i1:idx (w0::w1::w2::w3::w4::w5::w6::w7::R) (w64 (0+1))=some w1:=(X0? (k:=1)).trans rfl;cases b1 with
 | false=>exact ZT (Ee (by unfold Y3;exact Ec rfl (Ea i1 (Ea h1 (Ec rfl (Eb rfl))))))
 | true =>
 refine (Jl (s':=(1,n1,0,0,0,0,0,0)) (Ee (by unfold Y3;exact Ec rfl (Ea i1 (Ea h1 (Ef rfl (Ea (b:=(0:Int)) rfl (Eb rfl)))))))).trans ?_;have i2:idx (w0::w1::w2::w3::w4::w5::w6::w7::R) (w64 (1+1))=some w2:=(X0? (k:=2)).trans rfl;cases b2 with
 | false=>exact ZT (Ee (by unfold Y3;exact Ec rfl (Ea i2 (Ea h2 (Ec rfl (Eb rfl))))))
 | true =>
 refine (Jl (s':=(2,n1,n2,0,0,0,0,0)) (Ee (by unfold Y3;exact Ec rfl (Ea i2 (Ea h2 (Ef rfl (Ea (b:=(0:Int)) rfl (Eb rfl)))))))).trans ?_;have i3:idx (w0::w1::w2::w3::w4::w5::w6::w7::R) (w64 (2+1))=some w3:=(X0? (k:=3)).trans rfl;cases b3 with
 | false=>exact ZT (Ee (by unfold Y3;exact Ec rfl (Ea i3 (Ea h3 (Ec rfl (Eb rfl))))))
 | true =>
 refine (Jl (s':=(3,n1,n2,n3,0,0,0,0)) (Ee (by unfold Y3;exact Ec rfl (Ea i3 (Ea h3 (Ef rfl (Ea (b:=(0:Int)) rfl (Eb rfl)))))))).trans ?_;have i4:idx (w0::w1::w2::w3::w4::w5::w6::w7::R) (w64 (3+1))=some w4:=(X0? (k:=4)).trans rfl;cases b4 with
 | false=>exact ZT (Ee (by unfold Y3;exact Ec rfl (Ea i4 (Ea h4 (Ec rfl (Eb rfl))))))
 | true =>
 refine (Jl (s':=(4,n1,n2,n3,n4,0,0,0)) (Ee (by unfold Y3;exact Ec rfl (Ea i4 (Ea h4 (Ef rfl (Ea (b:=(0:Int)) rfl (Eb rfl)))))))).trans ?_;have i5:idx (w0::w1::w2::w3::w4::w5::w6::w7::R) (w64 (4+1))=some w5:=(X0? (k:=5)).trans rfl;cases b5 with
 | false=>exact ZT (Ee (by unfold Y3;exact Ec rfl (Ea i5 (Ea h5 (Ec rfl (Eb rfl))))))
 | true =>
 refine (Jl (s':=(5,n1,n2,n3,n4,n5,0,0)) (Ee (by unfold Y3;exact Ec rfl (Ea i5 (Ea h5 (Ef rfl (Ea (b:=(0:Int)) rfl (Eb rfl)))))))).trans ?_;have i6:idx (w0::w1::w2::w3::w4::w5::w6::w7::R) (w64 (5+1))=some w6:=(X0? (k:=6)).trans rfl;cases b6 with
 | false=>exact ZT (Ee (by unfold Y3;exact Ec rfl (Ea i6 (Ea h6 (Ec rfl (Eb rfl))))))
 | true =>
 refine (Jl (s':=(6,n1,n2,n3,n4,n5,n6,0)) (Ee (by unfold Y3;exact Ec rfl (Ea i6 (Ea h6 (Ef rfl (Ea (b:=(0:Int)) rfl (Eb rfl)))))))).trans ?_;have i7:idx (w0::w1::w2::w3::w4::w5::w6::w7::R) (w64 (6+1))=some w7:=(X0? (k:=7)).trans rfl;cases b7 with
 | false=>exact ZT (Ee (by unfold Y3;exact Ec rfl (Ea i7 (Ea h7 (Ec rfl (Eb rfl))))))
 | true =>
 refine (Jl (s':=(7,n1,n2,n3,n4,n5,n6,n7)) (Ee (by unfold Y3;exact Ec rfl (Ea i7 (Ea h7 (Ef rfl (Ea (b:=(0:Int)) rfl (Eb rfl)))))))).trans ?_;exact ZT (Ee (by unfold Y3;exact Ef rfl (Eb rfl)))
noncomputable def Qqg (ws:List ByteArray):Option (Na×Int):=(Ed (idx ws 0) fun el50=>(Ed (Qbw el50) fun r56=>(Ed (bif (!(!r56.2)) then Qcu r56.1 2 else some default) fun r67=>(bif ((!r56.2)||r67) then ( some ((Na.mk [] 0 0 0 0 0 0 0 false),7) ) else ( (Ed (loop (Y3 ws) (0,0,0,0,0,0,0,0)) fun o383=>XR o383 fun ((x374,x375,x376,x377,x378,x379,x380):Int×Int×Int×Int×Int×Int×Int)=>(Ed (Qbv (Na.mk r56.1 x374 x375 x376 x377 x378 x379 x380 (decide ((ws.length:Int)=9)))) fun r454=>(bif (!decide (r454=0)) then ( some ((Na.mk [] 0 0 0 0 0 0 0 false),r454) ) else ( some ((Na.mk r56.1 x374 x375 x376 x377 x378 x379 x380 (decide ((ws.length:Int)=9))),0) )) ) ) )) ) ) )
theorem Qqh {w0 w1 w2 w3 w4 w5 w6 w7:ByteArray} {R:List ByteArray} {fl b1 b2 b3 b4 b5 b6 b7:Bool} {n1 n2 n3 n4 n5 n6 n7:Int} (h0:w0.size<=1000) (hfl:decide ((((w0::w1::w2::w3::w4::w5::w6::w7::R).length:Nat):Int)=9)=fl)
  (h1:YR w1 9=some (n1,b1)) (h2:YR w2 9=some (n2,b2)) (h3:YR w3 9=some (n3,b3)) (h4:YR w4 9=some (n4,b4)) (h5:YR w5 9=some (n5,b5)) (h6:YR w6 9=some (n6,b6)) (h7:YR w7 9=some (n7,b7)) :
  Qqg (w0::w1::w2::w3::w4::w5::w6::w7::R)=some (ZK fl (XS false (Qq w0)) (b1&&(b2&&(b3&&(b4&&(b5&&(b6&&b7)))))) n1 n2 n3 n4 n5 n6 n7):=by
 have hl:=Qde true (Qq w0);rw [Xx] at hl;have i0:idx (w0::w1::w2::w3::w4::w5::w6::w7::R) 0=some w0:=(X0? (k:=0)).trans rfl;obtain ⟨g1,g2⟩:=QEb (Qq w0);refine Ee ?_;unfold Qqg;rw [hfl];refine Ea i0 (Ea (Qqz h0) ?_);unfold ZK;cases hv:(XS false (Qq w0)).2 with
 | false =>
  rw [hv] at g1;cases ho:(XS true (Qq w0)).2 with
  | false=>exact Ea (b:=default) rfl (Ec rfl (Eb rfl))
  | true =>
   rw [ho] at g1;have hh:((XS true (Qq w0)).1.any fun x=>decide (x=2))=true:=by simpa using g1
   refine Ea (b:=true) ?_ (Ec rfl (Eb rfl));exact (Qmh (l:=(XS true (Qq w0)).1) (by omega)).trans (by rw [hh])
 | true =>
  rw [g2 hv] at g1 hl ⊢;rw [hv] at g1 ⊢;have hh:((XS false (Qq w0)).1.any fun x=>decide (x=2))=false:=by simpa using g1
  refine Ea (b:=false) ?_ (Ef rfl (Ea (QDv h1 h2 h3 h4 h5 h6 h7) ?_))
  ·exact (Qmh (l:=(XS false (Qq w0)).1) (by omega)).trans (by rw [hh])
  cases hB:(b1&&(b2&&(b3&&(b4&&(b5&&(b6&&b7)))))) with
  | false=>exact Runs.jl rfl
  | true =>
   refine Runs.jr (Ea (Qkf _ (by dsimp only;omega)) (Runs.bif (fun hb=>Eb ?_) (fun hb=>Eb ?_)))
   ·show _=(bif true&&true then (bif !decide _ then _ else _) else _);rw [hb];rfl
   ·show _=(bif true&&true then (bif !decide _ then _ else _) else _);rw [hb];rfl
end Go.Gw

end
section
set_option maxRecDepth 4096
set_option linter.unusedVariables false
set_option linter.unusedSectionVars false
namespace Go.Gw
open Go
attribute [local irreducible] loop
theorem Qeq:∀ {a b:List ByteArray},a.map Qq=b.map Qq->a=b
 | [],[],_=>rfl
 | [],_::_,h=>by cases h
 | _::_,[],h=>by cases h
 | x::a,y::b,h=>by
  obtain ⟨h1,h2⟩:=List.cons.inj h;rw [JN h1,Qeq h2]
theorem Qrl (c:Int):∀ (l:List Int),∀ p∈XB c l,p.length<=l.length
 | [],p,h=>by
  rw [XB,List.mem_singleton] at h;subst h;simp
 | x::l,p,h=>by
  have ih:=Qrl c l;obtain ⟨a,b,e⟩:=Qiz c l;rw [e] at ih;unfold XB at h;split at h
  ·rcases Ez.1 h with rfl | h
   ·simp
   ·rw [e] at h;have:=ih p h;simp;omega
  ·rw [e] at h;rcases Ez.1 h with rfl | h
   ·have:=ih a (Er ..);simp;omega
   ·have:=ih p (Ex _ h);simp;omega
abbrev sp:ByteArray:=ByteArray.mk #[32]
theorem Qlf:Qq sp=[32]:=rfl
theorem Qgn (a b c:ByteArray):a++b++c=a++(b++c):=JN (by simp only [JM,List.append_assoc])
/-! ### Words joined are words split -/
theorem Qme (a b:ByteArray):∀ l:List ByteArray,l.foldl (fun r x=>r++sp++x) (a++b)=a++l.foldl (fun r x=>r++sp++x) b
 | []=>rfl
 | x::l=>by
  rw [List.foldl_cons,List.foldl_cons,<-Qme a (b++sp++x) l,Qgn a b sp,Qgn a (b++sp) x]
theorem Qrk:∀ (l:List ByteArray) (a:ByteArray),(∀ w∈a::l,(32:Int)∉Qq w)->XB 32 (Qq (YE sp (a::l)))=(a::l).map Qq
 | [],a,h=>JB (h a (Er ..))
 | b::l,a,h=>by
  have e:YE sp (a::b::l)=a++sp++YE sp (b::l):=by
   show (l.foldl (fun r x=>r++sp++x) (a++sp++b))=_;rw [Qme];rfl
  rw [e,JM,JM,Qlf,List.append_assoc];show XB 32 (Qq a++32::Qq (YE sp (b::l)))=_;rw [J6 (h a (Er ..)),Qrk l b fun w hw=>h w (Ex _ hw)];rfl
theorem Qln (n:Int):(32:Int)∉Xj n:=fun h=>by have:=Qhc h;omega
theorem Qst (l:List Int):(32:Int)∉Yn l:=fun h=>by
 obtain ⟨x,_,e⟩:=Eq_.1 h;have:=Qsv x;omega
/-! ### Texts of readings -/
def Qao (x:Nl):ByteArray:=Zp x.Seen++sp++Y7 x.Count
theorem QGk:sp.size=1:=rfl
theorem Qxr {x:Nl} (h:x.Seen.length<=100) (hc:YK x.Count):(Qao x).size<=200:=by
 have:=Qcy hc;have:=Qdo x.Seen;unfold Qao;rw [Ei,Ei,QGk];omega
theorem Qyx {x:Nl} (h:x.Seen.length<=100) (hc:YK x.Count):Qhs x=some (Qao x):=by
 have h1:=Qcy hc;have h2:=Qdo x.Seen;have h3:(ByteArray.mk #[32]).size=1:=rfl;exact Ee (Ea (Qsu (by omega)) (Ea (Jj (by omega)) (Ea (Qhk hc) (Ea (Jj (by rw [Ei];omega)) (Eb rfl)))))
theorem QDz {x:Nl} (h:x.Seen.length<=100) (hc:YK x.Count):Qio x=some (Qao x):=by
 have h1:=Qcy hc;have h2:=Qdo x.Seen;have h3:(ByteArray.mk #[32]).size=1:=rfl;exact Ee (Ea (Qlr (by omega)) (Ea (Jj (by omega)) (Ea (Qlo hc) (Ea (Jj (by rw [Ei];omega)) (Eb rfl)))))
/-! ### Texts of tracks -/
def Xw (t:Na):List Int:=[t.Nb,t.Nd,t.Nf,t.Ng,t.Nc,t.Nh,t.Errors]
def rnd:ByteArray:=ByteArray.mk #[114,111,117,110,100]
def Yb (t:Na):List ByteArray:=Zp t.Nj::(Xw t).map Y7
def words (t:Na):List ByteArray:=if t.Ni=true then Yb t++[rnd] else Yb t
def Z2 (t:Na):ByteArray:=YE sp (words t)
structure Nm (t:Na):Prop where
 v:t.Nj.length<=100
 n:∀ x∈Xw t,YK x
theorem Qjp {t:Na} (h:Nm t):∀ s∈Yb t,s.size<=100:=by
 intro s hs;rcases Ez.1 hs with rfl | hs
 ·rw [Qdo];exact h.v
 ·obtain ⟨x,hx,rfl⟩:=Eq_.1 hs;have:=Qcy (h.n x hx);omega
theorem Qsz {t:Na} (h:Nm t):∀ s∈words t,s.size<=100:=by
 intro s hs;unfold words at hs;split at hs
 ·rcases List.mem_append.1 hs with hs | hs
  ·exact Qjp h s hs
  ·rw [List.mem_singleton.1 hs];decide
 ·exact Qjp h s hs
theorem Qxs {t:Na} (h:Nm t):(Z2 t).size<=910:=by
 have h1:(words t).length<=9:=by unfold words;split<;>simp [Yb,Xw]
 have h2:=Qhm (sep:=sp) (m:=100) (by decide) (Qsz h);have:=Nat.mul_le_mul_right (100+1) h1;unfold Z2;omega
theorem Qyy {t:Na} (h:Nm t):Qht t=some (Z2 t):=by
 have hn:∀ {x:Int},x∈Xw t->ZL x=some (Y7 x):=fun hx=>Qhk (h.n _ hx)
 have hj:Qbz (words t) sp=some (Z2 t):=Qyw rfl (by unfold words;split<;>simp [Yb,Xw]) fun s hs=>by have:=Qsz h s hs;omega
 refine Ee (Ea (Qsu (by have:=h.v;omega)) (Ea (b:=()) rfl (Ea (hn (by simp [Xw])) (Ea (YM (by simp)) (Ea (hn (by simp [Xw])) (Ea (YM (by simp)) (Ea (hn (by simp [Xw])) (Ea (YM (by simp)) (Ea (hn (by simp [Xw])) (Ea (YM (by simp)) (Ea (hn (by simp [Xw])) (Ea (YM (by simp)) (Ea (hn (by simp [Xw])) (Ea (YM (by simp)) (Ea (hn (by simp [Xw])) (Ea (YM (by simp)) (Runs.bif (fun hb=>?_) (fun hb=>?_)))))))))))))))))) 
 ·have hw:words t=Yb t++[rnd]:=by unfold words;rw [if_pos hb]
  rw [hw] at hj;exact Ea (YM (by simp)) (Ea hj (Eb rfl))
 ·have hw:words t=Yb t:=by unfold words;rw [if_neg (by rw [hb];decide)]
  rw [hw] at hj;exact Ea hj (Eb rfl)
theorem QEa {t:Na} (h:Nm t):Qey t=some (Z2 t):=by
  refine Ee ?_;unfold Qey;have hs:∀ k,(YE sp ((Yb t).take k)).size<=808:=fun k=>by
    have h1:((Yb t).take k).length<=8:=by rw [Ek];simp [Yb,Xw];omega
    have h2:=Qhm (sep:=sp) (m:=100) (by decide) fun s (hs:s∈(Yb t).take k)=>Qjp h s (List.mem_of_mem_take hs)
    have:=Nat.mul_le_mul_right (100+1) h1;omega
  have hl:(Yb t).length=8:=rfl;have h1:loop (Qex t) (Zp t.Nj,0)=some (YE sp (Yb t)):=by
    refine (Qic (o:=YE sp (Yb t)) (fun k=>(YE sp ((Yb t).take (k+1)),(k:Int))) 7 (fun k hk=>?_) ?_)
    · refine Ee ?_;unfold Qex;have hk2:k < (Xw t).length:=hk;have hr:=h.n _ (List.getElem_mem hk2);have hd:=Qcy hr;have h3:=hs (k+1);have h4:(ByteArray.mk #[32]).size=1:=rfl;refine Ec (Y1 (n:=7) hk) (Ea (Jj (by omega)) (Ea (X0 (xs:=Xw t) hk2) (Ea (Qlo hr) (Ea (Jj (by rw [Ei];omega)) (Eb ?_)))));have e:(Yb t)[k+1]'(by omega)=Y7 ((Xw t)[k]) := by
        show ((Xw t).map Y7)[k]'(by rw [Eh];exact hk2)=_;rw [List.getElem_map]
      rw [XZ k (by omega),<-Ej (show k+1 < (Yb t).length by omega),e,Qhn (List.ne_nil_of_length_pos (by rw [Ek];omega))]
    · refine Ee ?_;unfold Qex;exact Ef (Y2 7) (Eb rfl)
  refine Ea (Qlr (by have:=h.v;omega)) (Ea h1 (Runs.bif (fun hb=>?_) (fun hb=>?_)))
  · have hw:words t=Yb t++[rnd]:=by unfold words;rw [if_pos hb]
    have h2:=hs 8;rw [Ep (by omega)] at h2;have h3:(ByteArray.mk #[32,114,111,117,110,100]).size=6:=rfl;refine Ea (Jj (by omega)) (Eb ?_);unfold Z2;rw [hw,Qhn (by unfold Yb;simp),Qgn];rfl
  · have hw:words t=Yb t:=by unfold words;rw [if_neg (by rw [hb];decide)]
    refine Eb ?_;unfold Z2;rw [hw]
end Go.Gw

end
section
set_option maxRecDepth 100000
namespace Go.Gw
open Go
theorem Quf:Qhr=some true:=by decide +kernel
end Go.Gw

end
