/- Laws of the walk. Condition: each theorem says its own. -/
import Derived.Test.YtbigilldfhjedaaGreatDoorGwTopA
import Derived.Test.YtbigilldfhjedaaGreatDoorGwTx2
import Derived.Test.YtbigilldfhjedaaGreatDoorGwOpen
set_option linter.unusedVariables false
set_option linter.unusedSimpArgs false
set_option linter.unusedSectionVars false
open Go.Gw.Runs renaming call→Ea,some→Eb,bif_t→Ed,bif_f→Ee,callR→Eh,loop→Eq_,eq→Et,jr→ES,jl→ET
open ByteArray renaming size_append→Ec,append_empty→EP,append_assoc→EQ
open List renaming mem_cons_of_mem→Ef,mem_cons_self→Eg,getElem_mem→Ei,take_length→Ej,append_assoc→Ek,length_cons→Em,mem_map→En,take_append_getElem→Eo,mem_cons→Ep,length_take→Er,map_cons→Ev,mem_append→Ew,length_map→Ex,take_of_length_le→Ey,foldl_cons→EC,length_eq_one_iff→EE,mem_of_mem_take→EH,length_append→EK,ne_nil_of_length_pos→EL,all_eq_true→EM,length_eq_zero_iff→EN,length→EU
open Nat renaming zero_le→El,le_refl→Ez,le_trans→EI,mul_le_mul_right→EJ,succ_mul→ER
open Bool renaming and_eq_true→Es,and_eq_false_iff→Eu,not_eq_true'→ED,or_eq_true→EO
open Int renaming toNat_natCast→EB
open Option renaming some→EF,bind_some→EG
section
set_option maxRecDepth 4096
namespace Go.Gw
open Go
attribute [local irreducible] loop
def YH (l:List ByteArray):ByteArray:=l.foldl (·++·) ByteArray.empty
theorem Qxz (l:List ByteArray) (x:ByteArray):YH (l++[x])=YH l++x:=by simp [YH,List.foldl_append]
theorem QJy {m:Nat}:∀ {l:List ByteArray},(∀ s∈l,s.size<=m)->(YH l).size<=l.length * m:=by
 have key:∀ (l:List ByteArray) (a:ByteArray),(∀ s∈l,s.size<=m)->(l.foldl (·++·) a).size<=a.size+l.length * m:=by
  intro l
  induction l with
  | nil=>intro a _;simp
  | cons x l ih =>
   intro a h;have G:=ih (a++x) fun s hs=>h s (Ef _ hs)
   have H:=h x (Eg ..);rw [Ec] at G;rw [EC,Em,ER];omega
 intro l h;have:=key l ByteArray.empty h;simpa [YH] using this
def X2 (sep:ByteArray):List ByteArray->ByteArray
 | []=>ByteArray.empty
 | a::l=>l.foldl (fun r x=>r++sep++x) a
theorem Qse {sep:ByteArray} {l:List ByteArray} (h:l≠[]) (x:ByteArray):X2 sep (l++[x])=X2 sep l++sep++x:=by
 cases l with
 | nil=>exact absurd rfl h
 | cons a l=>simp [X2,List.foldl_append]
theorem Qii {sep:ByteArray} {m:Nat} (hs:sep.size<=1):∀ {l:List ByteArray},(∀ s∈l,s.size<=m)->(X2 sep l).size<=l.length * (m+1):=by
 have key:∀ (l:List ByteArray) (a:ByteArray),(∀ s∈l,s.size<=m)->(l.foldl (fun r x=>r++sep++x) a).size<=a.size+l.length * (m+1):=by
  intro l
  induction l with
  | nil=>intro a _;simp
  | cons x l ih =>
   intro a h;have G:=ih (a++sep++x) fun s hs=>h s (Ef _ hs)
   have H:=h x (Eg ..);rw [Ec,Ec] at G;rw [EC,Em,ER];omega
 intro l h;cases l with
 | nil=>simp [X2]
 | cons a l =>
  have G:=key l a fun s hs=>h s (Ef _ hs)
  have H:=h a (Eg ..);rw [Em,ER];show (l.foldl (fun r x=>r++sep++x) a).size<=_;omega
theorem Zu {a b:ByteArray} (h:a.size+b.size<=1048576):YL a b=some (a++b):=by unfold YL;rw [if_pos h]
theorem Qzy {l:List ByteArray} {sep:ByteArray} (hs:sep.size=1) (hl:l.length<=1000) (hm:∀ s∈l,s.size<=100000):Qhb l sep=some (X2 sep l):=by
  refine Et ?_;unfold Qhb;by_cases H:l.length=0
  · have:l=[]:=EN.1 H;subst this;exact Ed rfl (Eb rfl)
  refine Ee (by simp;intro e;subst e;exact H rfl) ?_;by_cases J:l.length=1
  · refine Ed (by rw [J];rfl) (Ea (Qzl (by omega)) (Eb ?_));obtain ⟨a,rfl⟩:=EE.1 J;rfl
  refine Ee (by rw [decide_eq_false];omega) ?_;have e1:w64 ((l.length:Int) - 1)=((l.length - 1:Nat):Int):=by rw [XS (by omega)];omega
  rw [hs,e1];refine Eh (R:=fun x=>x=((l.length - 1:Nat):Int)) (Ed rfl (Ea (QXr (by omega)) (Eh (R:=fun _=>True) (Ee ?_ (Eb trivial)) fun _ _=>Eb ?_))) ?_
  · refine decide_eq_false ?_;have G:Int.tdiv 9223372036854775807 ((l.length - 1:Nat):Int)=((9223372036854775807 / (l.length - 1):Nat):Int):=rfl;have I:9223372036854775807 / (l.length - 1)<=9223372036854775807:=Nat.div_le_self _ _;have M:1000<=9223372036854775807 / (l.length - 1):=by
      rw [Nat.le_div_iff_mul_le (by omega)];omega
    rw [G,XS (by omega)];omega
  · rw [XS (x:=((1:Nat):Int) * ((l.length - 1:Nat):Int)) (by omega),XS (by omega)];omega
  rintro _ rfl;refine Eh (R:=fun x=>0<=x/\x<=1000+100000 * 1000) (Eq_ (fun s=>∃ k:Nat,s.2=(k:Int)/\k<=l.length/\0<=s.1/\s.1<=1000+100000 * (k:Int)) (fun s=>l.length - s.2.toNat) ⟨0,rfl,El _,by show (0:Int)<=((l.length - 1:Nat):Int);omega,by show ((l.length - 1:Nat):Int)<=_;omega⟩ ?_) ?_
  · rintro ⟨x,_⟩ ⟨k,rfl,hk,G,I⟩;dsimp only at G I;unfold QGf;by_cases hlt:k < l.length
    · have M:=hm _ (Ei hlt);refine Ed (XT hlt) (Ea (Xo hlt) (Ee ?_ (Eb ⟨⟨k+1,?_,by omega,?_,?_⟩,?_⟩)))
      · rw [XS (by omega)];exact decide_eq_false (by omega)
      · exact Xk k (by omega)
      · show 0<=w64 (x+(l[k].size:Int));rw [XS (by omega)];omega
      · show w64 (x+(l[k].size:Int))<=_;rw [XS (by omega)];omega
      · show l.length - (w64 ((k:Int)+1)).toNat < l.length - ((k:Nat):Int).toNat;rw [Xk k (by omega)];simp;omega
    · have:k=l.length:=by omega
      subst this;refine Ee (XR _) (Eb ⟨G,?_⟩);show x<=_;omega
  rintro x ⟨G,I⟩;have hg:grw x=some ():=by unfold grw;rw [if_pos (by omega)]
  refine Ea hg (Ea (Qzl (by omega)) (Ea (ZK (by rw [Zn];have:=hm _ (Ei (show 0 < l.length by omega));simp;omega)) ?_));have hcut:cut l 1 (l.length:Int)=some (l.drop 1):=Qyj (by omega);refine Ea hcut ?_;have hjs:∀ k,k<=l.length->(X2 sep (l.take k)).size<=1000 * 100001:=fun k hk=>by
    have:=Qii (sep:=sep) (m:=100000) (by omega) (l:=l.take k) fun s hs=>hm s (EH hs)
    have O:(l.take k).length<=1000:=by simp;omega
    exact EI this (EJ _ O)
  refine Runs.bind (Runs.mono (Q:=fun xs=>xs=bl (X2 sep l)) (Eq_ (fun s=>∃ k:Nat,s=((k:Int),bl (X2 sep (l.take (k+1))))/\k+1<=l.length) (fun s=>l.length - s.1.toNat) ⟨0,?_,by omega⟩ ?_) ?_)
  · have : l.take (0 + 1) = [l[0]'(by omega)] := by
      cases l with
      | nil=>exact absurd rfl H
      | cons a l=>rfl
    rw [this];rfl
  · rintro _ ⟨k,rfl,hk⟩;unfold QGg;have hdl:(l.drop 1).length=l.length - 1:=by simp
    by_cases hlt:k+1 < l.length
    · have M:=hm _ (Ei hlt);have O:=hjs (k+1) hk;have Y:((l.drop 1)[k]'(by omega)).size<=100000 := by rw [List.getElem_drop];exact hm _ (Ei _)
      have U:(bl (X2 sep (l.take (k+1)))).length+(bl sep).length<=1073741824:=by rw [Zn,Zn,hs];omega
      have V:(bl (X2 sep (l.take (k+1)))++bl sep).length+(bl ((l.drop 1)[k]'(by omega))).length<=1073741824 := by rw [EK, Zn, Zn, Zn, hs];omega
      refine Ed (XT (by omega)) (Ea (Xo (xs:=l.drop 1) (by omega)) (Ea (ZK U) (Ea (ZK V) (Eb ⟨⟨k+1,?_,by omega⟩,?_⟩))))
      · rw [Xk k (by omega),<-Qld,<-Qld,<-Qse (EL (by rw [Er];omega))];have:l.take (k+1)++[(l.drop 1)[k]'(by omega)]=l.take (k+1+1) := by
          rw [List.getElem_drop,<-Qke l (k+1) hlt];simp only [Nat.add_comm]
        rw [this]
      · show l.length - (w64 ((k:Int)+1)).toNat < l.length - ((k:Nat):Int).toNat;rw [Xk k (by omega)];simp;omega
    · refine Ee ?_ (Eb ?_)
      · have:k=(l.drop 1).length:=by omega
        subst this;exact XR _
      · show bl (X2 sep (l.take (k+1)))=_;rw [Ey (by omega)]
  · rintro _ rfl;exact Eb (Qiy _)
/-! ### The text -/
noncomputable def Xs (n:Int):ByteArray:=(Qax n).getD ByteArray.empty
structure DecOk (n:Int):Prop where
 i:JJ n=some (Xs n)
 d:Qax n=some (Xs n)
 s:(Xs n).size<=20
theorem QPd:JJ 0=some ⟨#[48]⟩:=by decide +kernel
theorem QPe:JJ 1=some ⟨#[49]⟩:=by decide +kernel
def X7 (n:Int):ByteArray:=if n=0 then ⟨#[48]⟩ else if n=1 then ⟨#[49]⟩ else ⟨#[63]⟩
theorem Q3g (n:Int):(X7 n).size=1:=by
 unfold X7;by_cases h:n=0
 ·rw [if_pos h];rfl
 ·rw [if_neg h];by_cases h':n=1
  ·rw [if_pos h'];rfl
  ·rw [if_neg h'];rfl
def Yj (l:List Int):ByteArray:=if YH (l.map X7)=ByteArray.mk #[] then ⟨#[45]⟩ else YH (l.map X7)
noncomputable def X9 (t:Nh):ByteArray:=if t.Nc.length=0/\t.Nl=0 then ⟨#[45]⟩ else Xs t.Nl++⟨#[58]⟩++X2 ⟨#[44]⟩ (t.Nc.map Xs)
noncomputable def fmt (x:Nf):ByteArray:=X2 ⟨#[32]⟩ ([Yj x.Nb,Xs x.Ni]++x.Na.map X9)
structure Told (x:Nf):Prop where
 sw:x.Nb.length<=1000
 tr:x.Na.length<=20
 ct:DecOk x.Ni
 ch:∀ t∈x.Na,t.Nc.length<=20/\DecOk t.Nl/\∀ s∈t.Nc,DecOk s
theorem Qrd {l:List Int} (h:∀ s∈l,DecOk s):(X2 ⟨#[44]⟩ (l.map Xs)).size<=l.length * 21:=by
 have:=Qii (sep:=⟨#[44]⟩) (m:=20) (Ez _) (l:=l.map Xs) fun s hs=>by
  obtain ⟨n,hn,rfl⟩:=En.1 hs;exact (h n hn).s
 simpa using this
theorem Qwc {x:Nf} (h:Told x) {t:Nh} (ht:t∈x.Na):(X9 t).size<=500:=by
 obtain ⟨I,G,H⟩:=h.ch t ht;unfold X9;split
 ·decide
 ·rw [Ec,Ec];have:=Qrd H;have:=G.s;have e:(ByteArray.mk #[58]).size=1:=rfl;omega
theorem Qlg (l:List Int):(YH (l.map X7)).size<=l.length:=by
 have:=QJy (m:=1) (l:=l.map X7) fun s hs=>by
  obtain ⟨n,_,rfl⟩:=En.1 hs;rw [Q3g];exact Ez _
 simpa using this
theorem QGl {l:List Int} (h:l.length<=1000):(Yj l).size<=1000:=by
 unfold Yj;split
 ·decide
 ·have:=Qlg l;omega
theorem QNn {x:Nf} (h:Told x):Qnv x=some (fmt x):=by
  refine Et ?_;unfold Qnv;refine Eh (R:=fun s=>s=YH (x.Nb.map X7)) (Eq_ (fun s=>∃ k:Nat,s=(YH ((x.Nb.take k).map X7),(k:Int))/\k<=x.Nb.length) (fun s=>x.Nb.length - s.2.toNat) ⟨0,rfl,El _⟩ ?_) ?_
  · rintro _ ⟨k,rfl,hk⟩;have hsw:=h.sw;unfold QEb;by_cases hlt:k < x.Nb.length
    · have hz:(YH ((x.Nb.take k).map X7)).size<=1000:=EI (Qlg (x.Nb.take k)) (by rw [Er];omega);have hc:∀ c:ByteArray,X7 x.Nb[k]=c->c.size=1->Runs (Option.bind (YL (YH ((x.Nb.take k).map X7)) c) fun q=>some (Sum.inl (q,w64 ((k:Int)+1)))) (Rnd (fun s=>∃ k:Nat,s=(YH ((x.Nb.take k).map X7),(k:Int))/\k<=x.Nb.length) (fun s=>x.Nb.length - s.2.toNat) (fun s=>s=YH (x.Nb.map X7)) (YH ((x.Nb.take k).map X7),(k:Int))):=fun c hc U=>by
        refine Ea (Zu (by omega)) (Eb ⟨⟨k+1,?_,by omega⟩,?_⟩)
        · rw [Xk k (by omega),<-Qfi x.Nb X7 k hlt,Qxz,hc]
        · show x.Nb.length - (w64 ((k:Int)+1)).toNat < x.Nb.length - ((k:Nat):Int).toNat;rw [Xk k (by omega)];simp;omega
      refine Ed (XT hlt) (Ea (Xo hlt) (Runs.bif (fun G=>?_) (fun G=>Runs.bif (fun H=>?_) (fun H=>?_))))
      · exact hc _ (by unfold X7;rw [if_pos (of_decide_eq_true G)]) rfl
      · exact hc _ (by unfold X7;rw [if_neg (of_decide_eq_false G),if_pos (of_decide_eq_true H)]) rfl
      · exact hc _ (by unfold X7;rw [if_neg (of_decide_eq_false G),if_neg (of_decide_eq_false H)]) rfl
    · have:k=x.Nb.length:=by omega
      subst this;refine Ee (XR _) (Eb ?_);show YH ((x.Nb.take x.Nb.length).map X7)=_;rw [Ej]
  rintro _ rfl;refine Eh (R:=fun s=>s=Yj x.Nb) ?_ ?_
  · unfold Yj;by_cases e:YH (x.Nb.map X7)=ByteArray.mk #[]
    · rw [if_pos e];exact Ed (decide_eq_true e) (Eb rfl)
    · rw [if_neg e];exact Ee (decide_eq_false e) (Eb rfl)
  rintro _ rfl;have V:=QGl h.sw;have Y:=h.ct.s;have e1:(ByteArray.mk #[32]).size=1:=rfl;have e2:(ByteArray.mk #[58]).size=1:=rfl;have e3:(ByteArray.mk #[44]).size=1:=rfl;have e4:(ByteArray.mk #[45]).size=1:=rfl;refine Ea (Zu (by omega)) (Ea h.ct.d (Ea (Zu (by rw [Ec];omega)) ?_));have hsz:∀ k,k<=x.Na.length->(X2 ⟨#[32]⟩ ([Yj x.Nb,Xs x.Ni]++(x.Na.take k).map X9)).size<=22 * 1001:=fun k hk=>by
    have:=Qii (sep:=⟨#[32]⟩) (m:=1000) (Ez _) (l:=[Yj x.Nb,Xs x.Ni]++(x.Na.take k).map X9) fun s hs=>by
      rcases Ew.1 hs with hs | hs
      · simp at hs;rcases hs with rfl | rfl<;>omega
      · obtain ⟨t,ht,rfl⟩:=En.1 hs;have:=Qwc h (EH ht);omega
    have H:=h.tr;have M:([Yj x.Nb,Xs x.Ni]++(x.Na.take k).map X9).length<=22:=by simp;omega
    exact EI this (EJ _ M)
  refine Runs.bind (Runs.mono (Q:=fun s=>s=fmt x) (Eq_ (fun s=>∃ k:Nat,s=(X2 ⟨#[32]⟩ ([Yj x.Nb,Xs x.Ni]++(x.Na.take k).map X9),(k:Int))/\k<=x.Na.length) (fun s=>x.Na.length - s.2.toNat) ⟨0,rfl,El _⟩ ?_) (fun _ e=>Eb e));rintro _ ⟨k,rfl,hk⟩;have hz:=hsz k hk;have htr:=h.tr;unfold QEd;by_cases hlt:k < x.Na.length
  · have hT:=Ei hlt;obtain ⟨c1,I,J⟩:=h.ch _ hT;have c2s:=I.s;have hts:=Qwc h hT;have hnext:X2 ⟨#[32]⟩ ([Yj x.Nb,Xs x.Ni]++(x.Na.take k).map X9)++⟨#[32]⟩++X9 x.Na[k]=X2 ⟨#[32]⟩ ([Yj x.Nb,Xs x.Ni]++(x.Na.take (k+1)).map X9):=by
      rw [<-Qse (by simp),Ek,Qfi x.Na X9 k hlt]
    have hend:∀ s:ByteArray,s=X2 ⟨#[32]⟩ ([Yj x.Nb,Xs x.Ni]++(x.Na.take k).map X9)++⟨#[32]⟩++X9 x.Na[k]->Runs (some (Sum.inl (s,w64 ((k:Int)+1)))) (Rnd (fun s=>∃ k:Nat,s=(X2 ⟨#[32]⟩ ([Yj x.Nb,Xs x.Ni]++(x.Na.take k).map X9),(k:Int))/\k<=x.Na.length) (fun s=>x.Na.length - s.2.toNat) (fun s=>s=fmt x) (X2 ⟨#[32]⟩ ([Yj x.Nb,Xs x.Ni]++(x.Na.take k).map X9),(k:Int))):=fun s hs=>by
      refine Eb ⟨⟨k+1,?_,by omega⟩,?_⟩
      · rw [Xk k (by omega),hs,hnext]
      · show x.Na.length - (w64 ((k:Int)+1)).toNat < x.Na.length - ((k:Nat):Int).toNat;rw [Xk k (by omega)];simp;omega
    refine Ed (XT hlt) (Ea (Xo hlt) (Ea (Zu (by omega)) ?_));by_cases he:x.Na[k].Nc.length=0/\x.Na[k].Nl=0
    · refine Ed (by simp [he]) (Ea (Zu (by rw [Ec];omega)) (hend _ ?_));unfold X9;rw [if_pos he]
    · refine Ee ?_ ?_
      · rw [Eu,decide_eq_false_iff_not,decide_eq_false_iff_not];omega
      refine Ea I.d (Ea (Zu (by rw [Ec];omega)) (Ea (Zu (by rw [Ec,Ec];omega)) ?_));refine Eh (R:=fun s=>s=X2 ⟨#[32]⟩ ([Yj x.Nb,Xs x.Ni]++(x.Na.take k).map X9)++⟨#[32]⟩++X9 x.Na[k]) ?_ (fun s hs=>hend s hs);generalize hpre:X2 ⟨#[32]⟩ ([Yj x.Nb,Xs x.Ni]++(x.Na.take k).map X9)++⟨#[32]⟩++Xs x.Na[k].Nl++⟨#[58]⟩=pre;have hps:pre.size<=30000:=by rw [<-hpre,Ec,Ec,Ec];omega
      refine Eq_ (fun s=>∃ j:Nat,s=(pre++X2 ⟨#[44]⟩ ((x.Na[k].Nc.take j).map Xs),(j:Int))/\j<=x.Na[k].Nc.length) (fun s=>x.Na[k].Nc.length - s.2.toNat) ⟨0,?_,El _⟩ ?_
      · show (pre,(0:Int))=_;rw [List.take_zero,List.map_nil];show _=(pre++ByteArray.empty,_);rw [EP];rfl
      · rintro _ ⟨j,rfl,hj⟩;unfold QEc;by_cases hjl:j < x.Na[k].Nc.length
        · have hd:=J _ (Ei hjl);have hds:=hd.s;have hjs:=Qrd (l:=x.Na[k].Nc.take j) fun s hs=>J s (EH hs)
          have O:(x.Na[k].Nc.take j).length<=20:=by simp;omega
          refine Ed (XT hjl) ?_;have hsn:=Qfi x.Na[k].Nc Xs j hjl;have hm:x.Na[k].Nc.length - (w64 ((j:Int)+1)).toNat < x.Na[k].Nc.length - ((j:Nat):Int).toNat:=by rw [Xk j (by omega)];simp;omega
          by_cases h0:0 < j
          · refine Eh (R:=fun s=>s=pre++X2 ⟨#[44]⟩ ((x.Na[k].Nc.take j).map Xs)++⟨#[44]⟩) (Ed (by simp;omega) (Ea (Zu (by rw [Ec];omega)) (Eb rfl))) ?_;rintro _ rfl;refine Ea (Xo hjl) (Ea hd.d (Ea (Zu (by rw [Ec,Ec];omega)) (Eb ⟨⟨j+1,?_,by omega⟩,hm⟩)));rw [Xk j (by omega),<-hsn,Qse (EL (by simp;omega))];simp only [EQ]
          · have:j=0:=by omega
            subst this;refine Eh (R:=fun s=>s=pre) (Ee rfl (Eb ?_)) ?_
            · show pre++ByteArray.empty=pre;rw [EP]
            rintro _ rfl;refine Ea (Xo hjl) (Ea hd.d (Ea (Zu (by omega)) (Eb ⟨⟨0+1,?_,by omega⟩,hm⟩)));rw [<-hsn];rfl
        · have:j=x.Na[k].Nc.length:=by omega
          subst this;refine Ee (XR _) (Eb ?_);show pre++X2 ⟨#[44]⟩ ((x.Na[k].Nc.take x.Na[k].Nc.length).map Xs)=_;rw [Ej,<-hpre];unfold X9;rw [if_neg he];simp only [EQ]
  · have:k=x.Na.length:=by omega
    subst this;refine Ee (XR _) (Eb ?_);show X2 _ (_++(x.Na.take x.Na.length).map X9)=fmt x;rw [Ej];rfl
theorem QNm {x:Nf} (h:Told x):Qer x=some (fmt x):=by
  refine Et ?_;unfold Qer;refine Eh (R:=fun s=>s=bl (YH (x.Nb.map X7))) (Eq_ (fun s=>∃ k:Nat,s=((k:Int),bl (YH ((x.Nb.take k).map X7)))/\k<=x.Nb.length) (fun s=>x.Nb.length - s.1.toNat) ⟨0,rfl,El _⟩ ?_) ?_
  · rintro _ ⟨k,rfl,hk⟩;have hsw:=h.sw;unfold QAt;by_cases hlt:k < x.Nb.length
    · have hz:(YH ((x.Nb.take k).map X7)).size<=1000:=EI (Qlg (x.Nb.take k)) (by rw [Er];omega);have hc:∀ c:ByteArray,X7 x.Nb[k]=c->c.size=1->Runs (Option.bind (app (bl (YH ((x.Nb.take k).map X7))) (bl c)) fun q=>some (Sum.inl (w64 ((k:Int)+1),q))) (Rnd (fun s=>∃ k:Nat,s=((k:Int),bl (YH ((x.Nb.take k).map X7)))/\k<=x.Nb.length) (fun s=>x.Nb.length - s.1.toNat) (fun s=>s=bl (YH (x.Nb.map X7))) ((k:Int),bl (YH ((x.Nb.take k).map X7)))):=fun c hc M=>by
        refine Ea (ZK (by rw [Zn,Zn];omega)) (Eb ⟨⟨k+1,?_,by omega⟩,?_⟩)
        · rw [Xk k (by omega),<-Qfi x.Nb X7 k hlt,Qxz,hc,Qld]
        · show x.Nb.length - (w64 ((k:Int)+1)).toNat < x.Nb.length - ((k:Nat):Int).toNat;rw [Xk k (by omega)];simp;omega
      refine Ed (XT hlt) (Ea (Xo hlt) (Runs.bif (fun G=>?_) (fun G=>Runs.bif (fun I=>?_) (fun I=>?_))))
      · have e:=of_decide_eq_true G;refine Ed G ?_;rw [e];exact Ea QPd (hc _ (by unfold X7;rw [if_pos e]) rfl)
      · have e:=of_decide_eq_true I;rw [e];exact Ea QPe (hc _ (by unfold X7;rw [if_neg (of_decide_eq_false G),if_pos e]) rfl)
      · exact hc _ (by unfold X7;rw [if_neg (of_decide_eq_false G),if_neg (of_decide_eq_false I)]) rfl
    · have:k=x.Nb.length:=by omega
      subst this;refine Ee (XR _) (Eb ?_);show bl (YH ((x.Nb.take x.Nb.length).map X7))=_;rw [Ej]
  rintro _ rfl;refine Eh (R:=fun l=>l=[YH (x.Nb.map X7),Xs x.Ni]) (Ea h.ct.i (Eb (by rw [Qiy]))) ?_;rintro _ rfl;refine Ea (b:=YH (x.Nb.map X7)) rfl (Eh (R:=fun l=>l=[Yj x.Nb,Xs x.Ni]) ?_ ?_)
  · unfold Yj;by_cases e:YH (x.Nb.map X7)=ByteArray.mk #[]
    · rw [if_pos e];exact Ed (decide_eq_true e) (Ea (b:=YH (x.Nb.map X7)) rfl (Eb rfl))
    · rw [if_neg e];exact Ee (decide_eq_false e) (Eb rfl)
  rintro _ rfl;have htr:=h.tr;have O:=QGl h.sw;have U:=h.ct.s;refine Eh (R:=fun l=>l=[Yj x.Nb,Xs x.Ni]++x.Na.map X9) (Eq_ (fun s=>∃ k:Nat,s=([Yj x.Nb,Xs x.Ni]++(x.Na.take k).map X9,(k:Int))/\k<=x.Na.length) (fun s=>x.Na.length - s.2.toNat) ⟨0,rfl,El _⟩ ?_) ?_
  · rintro _ ⟨k,rfl,hk⟩;unfold QAv;by_cases hlt:k < x.Na.length
    · have hT:=Ei hlt;obtain ⟨V,J,H⟩:=h.ch _ hT;have c2s:=J.s;have hm:x.Na.length - (w64 ((k:Int)+1)).toNat < x.Na.length - ((k:Nat):Int).toNat:=by rw [Xk k (by omega)];simp;omega
      have hnext:∀ c,c=X9 x.Na[k]->([Yj x.Nb,Xs x.Ni]++(x.Na.take k).map X9)++[c]=[Yj x.Nb,Xs x.Ni]++(x.Na.take (k+1)).map X9:=fun c hc=>by
        rw [hc,Ek,Qfi x.Na X9 k hlt]
      refine Ed (XT hlt) (Ea (Xo hlt) ?_);by_cases he:x.Na[k].Nc.length=0/\x.Na[k].Nl=0
      · refine Ed (by simp [he]) (Ea (ZK (by simp;omega)) (Eb ⟨⟨k+1,?_,by omega⟩,hm⟩));rw [Xk k (by omega),hnext _ (by unfold X9;rw [if_pos he])]
      · refine Ee ?_ ?_
        · rw [Eu,decide_eq_false_iff_not,decide_eq_false_iff_not];omega
        refine Eh (R:=fun l=>l=x.Na[k].Nc.map Xs) (Eq_ (fun s=>∃ j:Nat,s=((x.Na[k].Nc.take j).map Xs,(j:Int))/\j<=x.Na[k].Nc.length) (fun s=>x.Na[k].Nc.length - s.2.toNat) ⟨0,rfl,El _⟩ ?_) ?_
        · rintro _ ⟨j,rfl,hj⟩;unfold QAu;by_cases hjl:j < x.Na[k].Nc.length
          · have hd:=H _ (Ei hjl);refine Ed (XT hjl) (Ea (Xo hjl) (Ea hd.i (Ea (ZK (by simp;omega)) (Eb ⟨⟨j+1,by rw [Xk j (by omega),Qfi x.Na[k].Nc Xs j hjl],by omega⟩,?_⟩))));show x.Na[k].Nc.length - (w64 ((j:Int)+1)).toNat < x.Na[k].Nc.length - ((j:Nat):Int).toNat;rw [Xk j (by omega)];simp;omega
          · have:j=x.Na[k].Nc.length:=by omega
            subst this;refine Ee (XR _) (Eb ?_);show (x.Na[k].Nc.take x.Na[k].Nc.length).map Xs=_;rw [Ej]
        rintro _ rfl;have hcs:=Qrd H;have hjo:Qhb (x.Na[k].Nc.map Xs) (ByteArray.mk #[44])=some (X2 ⟨#[44]⟩ (x.Na[k].Nc.map Xs)):=Qzy rfl (by simp;omega) fun s hs=>by
          obtain ⟨n,hn,rfl⟩:=En.1 hs;have:=(H n hn).s;omega
        have e2:(ByteArray.mk #[58]).size=1:=rfl;refine Ea J.i (Ea (Zu (by omega)) (Ea hjo (Ea (Zu (by rw [Ec];omega)) (Ea (ZK (by simp;omega)) (Eb ⟨⟨k+1,?_,by omega⟩,hm⟩)))));rw [Xk k (by omega),hnext _ (by unfold X9;rw [if_neg he])]
    · have:k=x.Na.length:=by omega
      subst this;refine Ee (XR _) (Eb ?_);show [Yj x.Nb,Xs x.Ni]++(x.Na.take x.Na.length).map X9=_;rw [Ej]
  rintro _ rfl;refine Ea (Qzy rfl (by simp;omega) fun s hs=>?_) (Eb rfl);rcases Ew.1 hs with hs | hs
  · simp at hs;rcases hs with rfl | rfl<;>omega
  · obtain ⟨t,ht,rfl⟩:=En.1 hs;have:=Qwc h ht;omega
end Go.Gw

end
section
set_option maxRecDepth 4096
namespace Go.Gw
open Go
attribute [local irreducible] loop
/-! ### Lists read element by element -/
def Xq {α β:Type} (f:α->Option β):List α->Option (List β)
 | []=>some []
 | a::l=>match f a,Xq f l with
  | some b,some m=>some (b::m)
  | _,_=>none
section
variable {α β:Type} {f:α->Option β}
theorem Qiq:∀ {l:List α} {a:α} {out:List β} {b:β},Xq f l=some out->f a=some b->Xq f (l++[a])=some (out++[b])
 | [],a,out,b,h,hb=>by
  cases h;simp [Xq,hb]
 | x::l,a,out,b,h,hb=>by
  unfold Xq at h;cases G:f x with
  | none=>rw [G] at h;cases h
  | some y =>
   cases H:Xq f l with
   | none=>rw [G,H] at h;cases h
   | some m =>
    rw [G,H] at h;cases h;rw [List.cons_append];unfold Xq;rw [G,Qiq H hb];rfl
theorem Qgp:∀ {l:List α} {a:α},a∈l->f a=none->Xq f l=none
 | x::l,a,h,hn=>by
  unfold Xq;rcases Ep.1 h with rfl | h
  ·rw [hn]
  ·rw [Qgp h hn];cases f x<;>rfl
theorem Qgo:∀ {l:List α} {out:List β},Xq f l=some out->out.length=l.length
 | [],out,h=>by cases h;rfl
 | x::l,out,h=>by
  unfold Xq at h;cases G:f x with
  | none=>rw [G] at h;cases h
  | some y =>
   cases H:Xq f l with
   | none=>rw [G,H] at h;cases h
   | some m =>
    rw [G,H] at h;cases h;rw [Em,Em,Qgo H]
theorem QBy:∀ {l:List α} {out:List β},Xq f l=some out->∀ y∈out,∃ x∈l,f x=some y
 | [],out,h=>by cases h;intro y hy;cases hy
 | x::l,out,h=>by
  unfold Xq at h;cases G:f x with
  | none=>rw [G] at h;cases h
  | some z =>
   cases H:Xq f l with
   | none=>rw [G,H] at h;cases h
   | some m =>
    rw [G,H] at h;cases h;intro y hy;rcases Ep.1 hy with rfl | hy
    ·exact ⟨x,Eg ..,G⟩
    ·obtain ⟨x',hx,e⟩:=QBy H y hy;exact ⟨x',Ef _ hx,e⟩
end
/-! ### Numbers -/
def NR (l:List Int) (d:Nat) (r:Int×Bool):Prop :=
 (r.2=true/\0<=r.1/\l=Ya r.1/\l.length<=d)\/(r.2=false/\∀ n,0<=n->l=Ya n->d < l.length)
theorem QKk (n:Int):∃ c t,Ya n=c::t:=by
 unfold Ya;split
 ·exact ⟨_,_,rfl⟩
 ·obtain ⟨x,l,h,_⟩:=Qct n.natAbs;exact ⟨x,l,h⟩
theorem QZg {s:ByteArray} (hs:s.size<=1000):Runs (Qbx s) (NR (QB s) 4):=by
 unfold Qbx;refine Eh (QWs (d:=4) (by decide) (by omega)) ?_;rintro r hr;rcases hr with ⟨n,rfl,hn,hl⟩ | ⟨rfl,hno⟩
 ·obtain ⟨c,t,hc⟩:=QKk n;have hlen:0 < (QB s).length:=by rw [hn,hc];simp
  have hi:idx (α:=Int) (bl s) 0=some c:=by
   have:=J4 (s:=s) (k:=0) hlen;rw [show ((0:Nat):Int)=0 from rfl] at this;rw [this];simp [hn,hc]
  refine Ea (b:=c) hi (Eb ?_);rcases Qlj hc.symm with ⟨G,H,_⟩ | ⟨G,H,_⟩
  ·refine .inr ⟨by rw [decide_eq_true G];rfl,fun m hm e=>?_⟩;rw [hn] at e;have:=Qrg e;omega
  ·refine .inl ⟨by rw [decide_eq_false G];rfl,H,hn,?_⟩;have:Jt n=0:=by unfold Jt;rw [if_neg (by omega)]
   omega
 ·refine Ea (b:=(0:Int)) rfl (Eb (.inr ⟨rfl,fun n I e=>?_⟩));have G:=hno n e;omega
theorem QAg {s:ByteArray} (hs:s.size<=1000):Runs (Qdb s) (NR (QB s) 4):=by
  have hlen:=YR s;obtain ⟨⟨v,e⟩,hAt,hv,hdec⟩:=QJh (s:=s) (by omega);unfold Qdb;refine Ea hAt ?_;by_cases he:e=0/\0<=v
  · have H:(decide (e=0)&&decide (0<=v))=true:=by rw [decide_eq_true he.1,decide_eq_true he.2];rfl
    refine Ea (b:=Yw v) (by dsimp only;rw [H];exact Qmj hv) (Eb ?_);dsimp only;by_cases hb:Yw v=s
    · have hn:QB s=Ya v:=by rw [<-hb,Qef]
      by_cases J:s.size<=4
      · exact .inl ⟨by dsimp only;rw [H,decide_eq_true hb,decide_eq_true (by omega)];rfl,he.2,hn,by omega⟩
      · exact .inr ⟨by dsimp only;rw [decide_eq_false (p:=((s.size:Nat):Int)<=4) (by omega)];simp,fun _ _ _=>by omega⟩
    · refine .inr ⟨by dsimp only;rw [decide_eq_false hb];simp,fun n I hn=>?_⟩;refine Decidable.byContradiction fun hlt=>?_;have G:=hdec n hn (by omega);rw [Prod.mk.injEq] at G;exact hb (Qgb (by rw [Qef,hn,G.1]))
  · have H : (decide (e = 0) && decide (0 <= v)) = false := by
      rw [Eu,decide_eq_false_iff_not,decide_eq_false_iff_not];by_cases h:e=0
      · exact .inr fun G=>he ⟨h,G⟩
      · exact .inl h
    refine Ea (b:=default) (by dsimp only;rw [H];rfl) (Eb (.inr ⟨by dsimp only;rw [H];rfl,fun n I hn=>?_⟩));refine Decidable.byContradiction fun hlt=>?_;have G:=hdec n hn (by omega);rw [Prod.mk.injEq] at G;exact he ⟨G.2,by omega⟩
noncomputable def Xr (s:ByteArray):Option Int:=match Qdb s with
 | some (n,true)=>some n
 | _=>none
theorem Qal {s:ByteArray} (hs:s.size<=1000):∃ n n',Qdb s=some (n,(Xr s).isSome)/\Qbx s=some (n',(Xr s).isSome)/\∀ m,Xr s=some m->n=m/\n'=m/\0<=m/\QB s=Ya m:=by
 obtain ⟨⟨n,b⟩,I,U⟩:=QAg hs;obtain ⟨⟨n',b'⟩,J,M⟩:=QZg hs;have hr:Xr s=bif b then some n else none:=by
  unfold Xr;rw [I];cases b<;>rfl
 rcases U with ⟨e1,e2,e3,e4⟩ | ⟨e1,e2⟩
 ·dsimp only at e1 e2 e3;subst e1;rcases M with ⟨G,H,f3,O⟩ | ⟨G,H⟩
  ·dsimp only at G H f3;subst G;have:n'=n:=Qrg (f3.symm.trans e3);refine ⟨n,n',by rw [hr];exact I,by rw [hr];exact J,fun m hm=>?_⟩;rw [hr] at hm;cases hm;exact ⟨rfl,this,e2,e3⟩
  ·have:=H n e2 e3;omega
 ·dsimp only at e1;subst e1;rcases M with ⟨G,H,f3,O⟩ | ⟨G,H⟩
  ·have:=e2 n' H f3;omega
  ·dsimp only at G;subst G;refine ⟨n,n',by rw [hr];exact I,by rw [hr];exact J,fun m hm=>?_⟩;rw [hr] at hm;cases hm
theorem QYl {s:ByteArray} {m:Int} (hs:s.size<=1000) (G:0<=m) (M:m < 10000) (h:QB s=Ya m):Xr s=some m:=by
 obtain ⟨⟨n,b⟩,I,J⟩:=QAg hs;have H:Jt m=0:=by unfold Jt;rw [if_neg (by omega)]
 have O:(QB s).length<=4:=by
  rw [h,Qrh,H];exact Qis (by decide) (by omega)
 rcases J with ⟨e1,e2,e3,e4⟩ | ⟨e1,e2⟩
 ·dsimp only at e1 e2 e3;subst e1;unfold Xr;rw [I];show some n=some m;rw [Qrg (e3.symm.trans h)]
 ·have:=e2 m G h;omega
/-! ### Words -/
theorem Qtc:∀ {a b:List ByteArray},a.map QB=b.map QB->a=b
 | [],[],_=>rfl
 | [],_::_,h=>by cases h
 | _::_,[],h=>by cases h
 | x::a,y::b,h=>by
  obtain ⟨G,H⟩:=List.cons.inj h;rw [Qgb G,Qtc H]
theorem QFz (c:Int):∀ (l:List Int),∀ p∈Yh c l,p.length<=l.length
 | [],p,h=>by
  rw [Yh,List.mem_singleton] at h;subst h;simp
 | x::l,p,h=>by
  have ih:=QFz c l;obtain ⟨a,b,e⟩:=Qjx c l;rw [e] at ih;unfold Yh at h;split at h
  ·rcases Ep.1 h with rfl | h
   ·simp
   ·rw [e] at h;have:=ih p h;simp;omega
  ·rw [e] at h;rcases Ep.1 h with rfl | h
   ·have:=ih a (Eg ..);simp;omega
   ·have:=ih p (Ef _ h);simp;omega
theorem Qvc {c x:Int} (hx:x≠c):∀ {l:List Int},x∈l->∃ p∈Yh c l,x∈p
 | y::l,h=>by
  obtain ⟨a,b,e⟩:=Qjx c l;unfold Yh;split
  ·rename_i hc;rcases Ep.1 h with rfl | h
   ·exact absurd hc hx
   ·obtain ⟨p,hp,hxp⟩:=Qvc hx h;exact ⟨p,Ef _ hp,hxp⟩
  ·rw [e];rcases Ep.1 h with rfl | h
   ·exact ⟨_,Eg ..,Eg ..⟩
   ·obtain ⟨p,hp,hxp⟩:=Qvc hx h;rw [e] at hp;rcases Ep.1 hp with rfl | hp
    ·exact ⟨_,Eg ..,Ef _ hxp⟩
    ·exact ⟨p,Ef _ hp,hxp⟩
noncomputable def wd (c:Nat) (s:ByteArray):List ByteArray:=(Qbo s (c:Int)).getD []
structure WdOk (c:Nat) (s:ByteArray):Prop where
 cut:Qbo s (c:Int)=some (wd c s)
 spl:Qff s (ZE c)=some (wd c s)
 map:(wd c s).map QB=Yh (c:Int) (QB s)
 sz:∀ w∈wd c s,w.size<=s.size
 len:(wd c s).length<=s.size+1
 ne:∃ w ws,wd c s=w::ws
theorem J2 {c:Nat} (hc:c < 256) {s:ByteArray} (hs:s.size<=1000):WdOk c s:=by
  obtain ⟨W,hW,hm⟩:=Q2c (s:=s) (c:=c) hc (by omega);obtain ⟨W',hW',hm'⟩:=QKj (s:=s) (c:=(c:Int)) (by omega);obtain rfl:W=W':=Qtc (hm.trans hm'.symm);have e:wd c s=W:=by unfold wd;rw [hW'];rfl
  refine ⟨by rw [e];exact hW',by rw [e];exact hW,by rw [e];exact hm,?_,?_,?_⟩
  · rw [e];intro w hw;have G:=QFz (c:Int) (QB s) (QB w) (by
      have H:QB w∈W.map QB:=List.mem_map_of_mem hw;exact hm▸H)
    rw [YR,YR] at G;exact G
  · have G:=congrArg EU hm;rw [Ex,Qvb] at G;have:=List.count_le_length (a:=(c:Int)) (l:=QB s);rw [YR] at this;rw [e];omega
  · rw [e];cases W with
    | nil =>
      obtain ⟨x,y,e2⟩:=Qjx (c:Int) (QB s);rw [e2] at hm;cases hm
    | cons w ws=>exact ⟨w,ws,rfl⟩
theorem Qfs {c:Nat} (hc:c < 256) {s:ByteArray} (hs:s.size<=1000) {W:List ByteArray} (h:Yh (c:Int) (QB s)=W.map QB):wd c s=W :=
 Qtc ((J2 hc hs).map.trans h)
theorem Qql (a b c:ByteArray):a++b++c=a++(b++c):=Qgb (by simp only [Z6,Ek])
theorem Qzc (sp a b:ByteArray):∀ l:List ByteArray,l.foldl (fun r x=>r++sp++x) (a++b)=a++l.foldl (fun r x=>r++sp++x) b
 | []=>rfl
 | x::l=>by
  rw [EC,EC,<-Qzc sp a (b++sp++x) l,Qql a b sp,Qql a (b++sp) x]
theorem Qzw (sp a b:ByteArray) (l:List ByteArray):X2 sp (a::b::l)=a++sp++X2 sp (b::l):=by
 show (l.foldl (fun r x=>r++sp++x) (a++sp++b))=_;rw [Qzc];rfl
theorem Qva {c:Int} {sp:ByteArray} (hsp:QB sp=[c]):∀ (l:List ByteArray) (a:ByteArray),(∀ w∈a::l,c∉QB w)->Yh c (QB (X2 sp (a::l)))=(a::l).map QB
 | [],a,h=>Qcb (h a (Eg ..))
 | b::l,a,h=>by
  rw [Qzw,Z6,Z6,hsp,Ek];show Yh c (QB a++c::QB (X2 sp (b::l)))=_;rw [Qcc (h a (Eg ..)),Qva hsp l b fun w hw=>h w (Ef _ hw)];rfl
theorem Qzx {sp:ByteArray} {x:Int}:∀ (l:List ByteArray) (a:ByteArray),x∈QB (X2 sp (a::l))->x∈QB sp\/∃ w∈a::l,x∈QB w
 | [],a,h=>.inr ⟨a,Eg ..,h⟩
 | b::l,a,h=>by
  rw [Qzw,Z6,Z6] at h;rcases Ew.1 h with h | h
  ·rcases Ew.1 h with h | h
   ·exact .inr ⟨a,Eg ..,h⟩
   ·exact .inl h
  ·rcases Qzx l b h with h | ⟨w,hw,h⟩
   ·exact .inl h
   ·exact .inr ⟨w,Ef _ hw,h⟩
theorem QKi {c:Nat} (hc:c < 256) {s:ByteArray} (hs:s.size<=1000):((c:Int)∉QB s/\Qha s (ZE c)=some (s,ByteArray.mk #[],false)) \/
    ∃ A B,QB s=QB A++(c:Int)::QB B/\(c:Int)∉QB A/\Qha s (ZE c)=some (A,B,true):=by
  have hlen:=YR s;have hi:Qep s (ZE c)=some (ixB s (c:Int)):=by
    have h:=Qzn (s:=s) (c:=c) hc;unfold Qjz at h;cases J:Qep s (ZE c) with
    | none=>rw [J] at h;cases h
    | some v=>rw [J] at h;exact h
  have M:(ZE c).size=1:=rfl;rcases Qsd (s:=s) (c:=c) hc with ⟨G,H⟩ | ⟨a,b,G,H,I⟩
  · refine .inl ⟨G,Et ?_⟩;unfold Qha;refine Ea (b:=(s,ByteArray.mk #[],false)) (Et ?_) (Eb rfl);unfold Qmi;refine Ea hi (Ee ?_ (Eb rfl));rw [H];rfl
  · have hl : s.size = a.length + (b.length + 1) := by
      rw [<-hlen,G,EK,Em]
    obtain ⟨A,p1,O⟩:=Qdm (s:=s) (a:=0) (b:=a.length) (El _) (by omega);obtain ⟨B,U,V⟩:=Qdm (s:=s) (a:=a.length+1) (b:=s.size) (by omega) (Ez _);have hA:QB A=a:=by rw [O,G,List.take_left',List.drop_zero];rfl
    have hB:QB B=b:=by
      rw [V,Ey (by omega),G,List.drop_append,List.drop_of_length_le (by omega)];simp
    refine .inr ⟨A,B,by rw [hA,hB];exact G,by rw [hA];exact H,Et ?_⟩;unfold Qha;refine Ea (b:=(A,B,true)) (Et ?_) (Eb rfl);unfold Qmi;refine Ea hi (Ed ?_ (Ea (b:=A) ?_ (Ea (b:=B) ?_ (Eb rfl))))
    · rw [I];exact decide_eq_true (by omega)
    · rw [I];exact p1
    · rw [I,M,show w64 (((a.length:Nat):Int)+((1:Nat):Int))=((a.length+1:Nat):Int) from Xk _ (by omega)];exact U
end Go.Gw

end
section
set_option maxRecDepth 4096
namespace Go.Gw
open Go
attribute [local irreducible] loop
theorem Qng {α:Type} {o:Option α} (h:o.isSome=false):o=none:=by
 cases o with
 | none=>rfl
 | some a=>cases h
theorem Qoy {α:Type} {o:Option α} (h:o.isSome=true):∃ a,o=some a:=by
 cases o with
 | none=>cases h
 | some a=>exact ⟨a,rfl⟩
def Qiw (o:Option (List Int)):List Int×Bool:=match o with
 | some v=>(v,true)
 | none=>([],false)
theorem Qtu {l:List ByteArray} (hl:l.length<=2000) (hs:∀ s∈l,s.size<=1000):Qip l=some (Qiw (Xq Xr l)):=by
 refine Et ?_;unfold Qip;refine Eh (R:=fun o=>o=(match Xq Xr l with | some v=>.inr v | none=>.inl ([],false):(List Int×Bool)⊕List Int)) (Eq_ (fun x=>∃ k:Nat,x.2=(k:Int)/\k<=l.length/\Xq Xr (l.take k)=some x.1) (fun x=>l.length - x.2.toNat) ⟨0,rfl,El _,by simp [Xq]⟩ ?_) ?_
 ·rintro ⟨out,_⟩ ⟨k,rfl,hk,hm⟩;dsimp only at hm;unfold QBq;by_cases hi:k < l.length
  ·have hw:=Ei hi;obtain ⟨n,n',e1,_,e3⟩:=Qal (hs _ hw);have hol:=Qgo hm;rw [Er] at hol;refine Ed (XT hi) (Ea (Xo hi) (Ea e1 (Runs.bif (fun hb=>?_) (fun hb=>?_))))
   ·have hn:=Qng (o:=Xr l[k]) (by simpa using hb);refine Eb ?_;show _=_;rw [Qgp hw hn]
   ·obtain ⟨m,hmm⟩:=Qoy (o:=Xr l[k]) (by simpa using hb);obtain ⟨rfl,_⟩:=e3 m hmm;refine Ea (ZK (by simp;omega)) (Eb ⟨⟨k+1,Xk k (by omega),hi,?_⟩,?_⟩)
    ·show Xq Xr (l.take (k+1))=some (out++[n]);rw [<-Eo hi];exact Qiq hm hmm
    ·show l.length - (w64 ((k:Int)+1)).toNat < l.length - ((k:Nat):Int).toNat;rw [Xk k (by omega)];simp;omega
  ·obtain rfl:k=l.length:=by omega
   refine Ee (XR _) (Eb ?_);rw [Ej] at hm;show _=_;rw [hm]
 ·rintro _ rfl;cases h:Xq Xr l with
  | some v=>exact ES (Eb rfl)
  | none=>exact ET rfl
theorem QYa {l:List ByteArray} {b:Bool} (hl:l.length<=2000) (hs:∀ s∈l,s.size<=1000):Runs (loop (Qum l) (b,0,([]:List Int))) fun o=>o.1=(b&&(Xq Xr l).isSome)/\∀ v,b=true->Xq Xr l=some v->o.2=v:=by
 refine Eq_ (fun x=>∃ k:Nat,x.2.1=(k:Int)/\k<=l.length/\x.2.2.length<=k/\((x.1=true/\b=true/\Xq Xr (l.take k)=some x.2.2)\/(x.1=false/\(b&&(Xq Xr l).isSome)=false))) (fun x=>l.length - x.2.1.toNat) ⟨0,rfl,El _,Ez _,?_⟩ ?_
 ·cases b with
  | true=>exact .inl ⟨rfl,rfl,by simp [Xq]⟩
  | false=>exact .inr ⟨rfl,rfl⟩
 ·rintro ⟨c,_,out⟩ ⟨k,rfl,hk,hol,hc⟩;dsimp only at hol hc;unfold Qum;rcases hc with ⟨rfl,rfl,hm⟩ | ⟨rfl,hf⟩
  ·by_cases hi:k < l.length
   ·have hw:=Ei hi;obtain ⟨n,n',_,e2,e3⟩:=Qal (hs _ hw);refine Ed (by rw [XT hi];rfl) (Ea (Xo hi) (Ea e2 (Ea (ZK (by simp;omega)) (Eb ⟨⟨k+1,Xk k (by omega),hi,by simp;omega,?_⟩,?_⟩))))
    ·dsimp only;cases hb:(Xr l[k]).isSome with
     | true =>
      obtain ⟨m,hmm⟩:=Qoy hb;obtain ⟨_,rfl,_⟩:=e3 m hmm;refine .inl ⟨rfl,rfl,?_⟩;rw [<-Eo hi];exact Qiq hm hmm
     | false =>
      refine .inr ⟨rfl,?_⟩;rw [Qgp hw (Qng hb)];rfl
    ·show l.length - (w64 ((k:Int)+1)).toNat < l.length - ((k:Nat):Int).toNat;rw [Xk k (by omega)];simp;omega
   ·obtain rfl:k=l.length:=by omega
    refine Ee (by rw [XR];rfl) (Eb ?_);rw [Ej] at hm;refine ⟨?_,fun v _ hv=>?_⟩
    ·rw [hm];rfl
    ·rw [hm] at hv;exact EF.inj hv
  ·refine Ee (by simp) (Eb ⟨hf.symm,fun v hb hv=>?_⟩);rw [hb,hv] at hf;cases hf
/-! ### Na -/
noncomputable def Yb (s:ByteArray):Option Nh:=if s=ByteArray.mk #[45] then some ⟨[],0⟩ else match wd 58 s with
 | [A,B]=>match Xr A,Xq Xr (wd 44 B) with
  | some u,some v=>some ⟨v,u⟩
  | _,_=>none
 | _=>none
theorem QYm {x:Int} (hx:x≠45/\(x < 48\/57 < x)) {s:ByteArray} (hs:s.size<=1000) (h:x∈QB s):Xr s=none:=by
 cases hr:Xr s with
 | none=>rfl
 | some m =>
  obtain ⟨_,_,_,_,e⟩:=Qal hs;have:=(e m hr).2.2.2;rw [this] at h;have:=Qlk h;omega
theorem QPk {s:ByteArray} (hs:s.size<=900):Runs (Qmy s) fun r=>r.2=(Yb s).isSome/\∀ y,Yb s=some y->r.1=y:=by
  unfold Qmy;refine Runs.bif (fun hb=>?_) (fun hb=>?_)
  · have e:Yb s=some ⟨[],0⟩:=by unfold Yb;rw [if_pos (of_decide_eq_true hb)]
    rw [e];exact Eb ⟨rfl,fun y hy=>EF.inj hy⟩
  have hne:=of_decide_eq_false hb;have M:=J2 (c:=58) (by decide) (s:=s) (by omega);rcases QKi (c:=58) (by decide) (s:=s) (by omega) with ⟨H,J⟩ | ⟨A,B,H,J,O⟩
  · -- no mark
    have hw:wd 58 s=[s]:=Qfs (by decide) (by omega) (Qcb H);have e:Yb s=none:=by unfold Yb;rw [if_neg hne,hw]
    obtain ⟨n,n',e1,_,_⟩:=Qal (s:=s) (by omega);have hz:(ByteArray.mk #[]).size<=1000:=by decide
    have G:=J2 (c:=44) (by decide) hz;refine Ea J (Ea e1 (Ea G.spl (Ea (Qtu (by have:=G.len;have:(ByteArray.mk #[]).size=0:=rfl;omega) fun w hw=>EI (G.sz w hw) hz) (Eb ?_))));rw [e];exact ⟨by simp,fun y hy=>by cases hy⟩
  · have hl:=congrArg EU H;rw [EK,Em,YR,YR,YR] at hl;obtain ⟨n,n',e1,_,e3⟩:=Qal (s:=A) (by omega);have G:=J2 (c:=44) (by decide) (s:=B) (by omega);have hsz:∀ w∈wd 44 B,w.size<=1000:=fun w hw=>by have:=G.sz w hw;omega
    have hnum:=Qtu (l:=wd 44 B) (by have:=G.len;omega) hsz;refine Ea O (Ea e1 (Ea G.spl (Ea hnum (Eb ?_))));by_cases hB:(58:Int)∈QB B
    · -- more than one mark
      have hno:Xq Xr (wd 44 B)=none:=by
        obtain ⟨p,hp,hx⟩:=Qvc (c:=44) (x:=58) (by decide) hB;have I:=G.map;rw [show ((44:Nat):Int)=44 from rfl] at I;rw [<-I] at hp;obtain ⟨w,hw,rfl⟩:=En.1 hp;exact Qgp hw (QYm (by decide) (hsz w hw) hx)
      have hlen:3<=(wd 58 s).length:=by
        have I:=congrArg EU M.map;rw [Ex,Qvb,H,List.count_append,show ((58:Nat):Int)=58 from rfl,List.count_cons_self] at I;have:=List.count_pos_iff.2 hB;omega
      have e:Yb s=none:=by
        unfold Yb;rw [if_neg hne];split
        · rename_i heq;rw [heq] at hlen;simp at hlen
        · rfl
      rw [e,hno];exact ⟨by simp [Qiw],fun y hy=>by cases hy⟩
    · have hw:wd 58 s=[A,B]:=Qfs (by decide) (by omega) (by rw [show ((58:Nat):Int)=58 from rfl,H];rw [show ((58:Nat):Int)=58 from rfl] at J ⊢;rw [Qcc J,Qcb hB];rfl);have e : Yb s = match Xr A, Xq Xr (wd 44 B) with
          | some u,some v=>some ⟨v,u⟩
          | _,_=>none:=by unfold Yb;rw [if_neg hne,hw]
      rw [e];cases hA:Xr A with
      | none=>exact ⟨by simp,fun y hy=>by cases hy⟩
      | some u =>
        cases hv:Xq Xr (wd 44 B) with
        | none=>exact ⟨by simp [Qiw],fun y hy=>by cases hy⟩
        | some v =>
          refine ⟨by simp [Qiw],fun y hy=>?_⟩;rw [<-EF.inj hy,(e3 u hA).1];rfl
theorem QYh {s:ByteArray} (hs:s.size<=900):Runs (Qon s) fun r=>r.2=(Yb s).isSome/\∀ y,Yb s=some y->r.1=y:=by
  unfold Qon;refine Runs.bif (fun hb=>?_) (fun hb=>?_)
  · have e:Yb s=some ⟨[],0⟩:=by unfold Yb;rw [if_pos (of_decide_eq_true hb)]
    rw [e];exact Eb ⟨rfl,fun y hy=>EF.inj hy⟩
  have hne:=of_decide_eq_false hb;have I:=J2 (c:=58) (by decide) (s:=s) (by omega);refine Ea I.cut (Runs.bif (fun G=>?_) (fun G=>?_))
  · have hlen:¬ (wd 58 s).length=2:=fun e=>by rw [e] at G;cases G
    have e:Yb s=none:=by
      unfold Yb;rw [if_neg hne];split
      · rename_i heq;rw [heq] at hlen;simp at hlen
      · rfl
    rw [e];exact Eb ⟨rfl,fun y hy=>by cases hy⟩
  · have hlen : (wd 58 s).length = 2 := by
      have h:=G;simp only [Bool.not_eq_false',decide_eq_true_eq] at h;omega
    obtain ⟨A,B,hw⟩:∃ A B,wd 58 s=[A,B]:=by
      match wd 58 s,hlen with
      | [A,B],_=>exact ⟨A,B,rfl⟩
    have hszs:=I.sz;rw [hw] at hszs ⊢;have hA:=hszs A (by simp);have hB:=hszs B (by simp);obtain ⟨n,n',_,e2,e3⟩:=Qal (s:=A) (by omega);have H:=J2 (c:=44) (by decide) (s:=B) (by omega);have hsz:∀ w∈wd 44 B,w.size<=1000:=fun w hw=>by have:=H.sz w hw;omega
    refine Ea (b:=A) rfl (Ea e2 (Ea (b:=B) rfl (Ea H.cut (Eh (QYa (b:=(Xr A).isSome) (by have:=H.len;omega) hsz) ?_))));rintro ⟨c,out⟩ ⟨J,M⟩;refine Eb ?_;dsimp only at J M ⊢;have e : Yb s = match Xr A, Xq Xr (wd 44 B) with
        | some u,some v=>some ⟨v,u⟩
        | _,_=>none:=by unfold Yb;rw [if_neg hne,hw]
    rw [e,J];cases hA:Xr A with
    | none=>exact ⟨rfl,fun y hy=>by cases hy⟩
    | some u =>
      cases hv:Xq Xr (wd 44 B) with
      | none=>exact ⟨rfl,fun y hy=>by cases hy⟩
      | some v =>
        refine ⟨rfl,fun y hy=>?_⟩;rw [<-EF.inj hy,(e3 u hA).2.1,M v (by rw [hA];rfl) hv]
end Go.Gw

end
section
set_option maxRecDepth 4096
namespace Go.Gw
open Go
attribute [local irreducible] loop
def dg (c:Int):Bool:=decide (c=48)||decide (c=49)
def ZO (w:ByteArray):Option (List Int):=if w=ByteArray.mk #[45] then some [] else if (QB w).all dg=true then some ((QB w).map (· - 48)) else none
def noS:Nf:=⟨[],[],0⟩
theorem Qyl {c:Int} (h:dg c=true):w64 (IntKind.wrap .u8 (c - 48))=c - 48:=by
 unfold dg at h;rw [EO,decide_eq_true_eq,decide_eq_true_eq] at h;rcases h with rfl | rfl
 ·rfl
 ·rfl
theorem Qxb {l:List Int} {k:Nat} (hk:k < l.length) (h:(l.take k).all dg=true) (G:dg l[k]=true):(l.take (k+1)).all dg=true:=by
 rw [<-Eo hk,List.all_append,h,Bool.true_and,List.all_cons,G];rfl
theorem Qxa {l:List Int} {k:Nat} (hk:k < l.length) (G:dg l[k]=false):¬ l.all dg=true:=by
 intro h;rw [EM.1 h _ (Ei hk)] at G;cases G
theorem QBz {l:List Int} {k:Nat} (hk:k < l.length):(l.take (k+1)).map (· - 48)=(l.take k).map (· - 48)++[l[k] - 48]:=by
 rw [<-Eo hk,List.map_append];rfl
theorem QPj {w:ByteArray} (hs:w.size<=1000):Runs (loop (Qsl (QB w)) (0,([]:List Int))) fun o=>o=if (QB w).all dg=true then .inr ((QB w).map (· - 48)) else .inl (.inl (noS,7)):=by
  have hlen:=YR w;refine Eq_ (fun x=>∃ k:Nat,x=((k:Int),((QB w).take k).map (· - 48))/\k<=w.size/\((QB w).take k).all dg=true) (fun x=>w.size - x.1.toNat) ⟨0,by simp,El _,by simp⟩ ?_;rintro _ ⟨k,rfl,hk,ha⟩;unfold Qsl;by_cases hi:k < w.size
  · have hg:k < (QB w).length:=by omega
    have hl:(((QB w).take k).map (· - 48)).length<=1000:=by rw [Ex,Er];omega
    have hm:w.size - (w64 ((k:Int)+1)).toNat < w.size - ((k:Nat):Int).toNat:=by rw [Xk k (by omega),EB,EB];omega
    refine Ed (by have:=XT hg;exact this) (Ea (Xo (xs:=QB w) hg) (Runs.bif (fun hb=>?_) (fun hb=>?_)))
    · refine Eb ?_;have G:dg (QB w)[k]=false:=by
        unfold dg;rw [Es,ED,ED] at hb;rw [hb.1,hb.2];rfl
      show _=_;rw [if_neg (Qxa hg G)];rfl
    · have G : dg (QB w)[k] = true := by
        unfold dg;cases H:decide ((QB w)[k]=48)
        · rw [H] at hb;cases I:decide ((QB w)[k]=49)
          · rw [I] at hb;cases hb
          · rfl
        · rfl
      refine Ea (ZK (by simp;omega)) (Eb ⟨⟨k+1,?_,hi,Qxb hg ha G⟩,hm⟩);rw [Qyl G,QBz hg,Xk k (by omega)]
  · obtain rfl:k=w.size:=by omega
    refine Ee (by have:=XR (QB w).length;rw [hlen] at this;show decide (((w.size:Nat):Int) < ((QB w).length:Nat))=false;rw [hlen];exact this) (Eb ?_);rw [Ey (by omega)] at ha ⊢;show _=_;rw [ha,if_pos rfl]
theorem QYg {w0:ByteArray} {R:List ByteArray} (hs:w0.size<=1000):Runs (loop (Qnx (w0::R)) (0,([]:List Int))) fun o=>o=match ZO w0 with
    | some v=>.inr v
    | none=>.inl (noS,false):=by
  have hlen:=YR w0;have H:idx (w0::R) 0=some w0:=(Xo? (k:=0)).trans rfl;by_cases hd:w0=ByteArray.mk #[45]
  · have e:ZO w0=some []:=by unfold ZO;rw [if_pos hd]
    rw [e];refine ⟨_,Qgn (o:=.inr []) (Et ?_),rfl⟩;unfold Qnx;refine Ea H (Ea (b:=w0) (by rw [hd];exact (congrArg (fun x=>idx (x::R) 0) hd).symm.trans (H.trans (by rw [hd]))) (Ee ?_ (Eb rfl)));rw [decide_eq_true hd];simp
  have V:decide (w0=ByteArray.mk #[45])=false:=decide_eq_false hd;have e:ZO w0=if (QB w0).all dg=true then some ((QB w0).map (· - 48)) else none:=by unfold ZO;rw [if_neg hd]
  rw [e];refine Eq_ (fun x=>∃ k:Nat,x=((k:Int),((QB w0).take k).map (· - 48))/\k<=w0.size/\((QB w0).take k).all dg=true) (fun x=>w0.size - x.1.toNat) ⟨0,by simp,El _,by simp⟩ ?_;rintro _ ⟨k,rfl,hk,ha⟩;unfold Qnx;by_cases hi:k < w0.size
  · have hg:k < (QB w0).length:=by omega
    have hl:(((QB w0).take k).map (· - 48)).length<=1000:=by rw [Ex,Er];omega
    have hm:w0.size - (w64 ((k:Int)+1)).toNat < w0.size - ((k:Nat):Int).toNat:=by rw [Xk k (by omega),EB,EB];omega
    have hlt:=XT hi
    have good : dg (QB w0)[k] = true -> Runs ((idx (w0 :: R) 0).bind fun I => (idx (α := Int) (bl I) (k : Int)).bind fun J => (app (((QB w0).take k).map (· - 48)) ([w64 (IntKind.wrap .u8 (J - 48))] : List Int)).bind fun O => some (.inl (w64 ((k : Int) + 1), O)))
        (Rnd (fun x:Int×List Int=>∃ k:Nat,x=((k:Int),((QB w0).take k).map (· - 48))/\k<=w0.size/\((QB w0).take k).all dg=true) (fun x=>w0.size - x.1.toNat) (fun o:(Nf×Bool)⊕List Int=>o=match (if (QB w0).all dg=true then some ((QB w0).map (· - 48)) else none) with
          | some v=>.inr v
          | none=>.inl (noS,false)) ((k:Int),((QB w0).take k).map (· - 48))):=fun M=>by
      refine Ea H (Ea (J4 hg) (Ea (ZK (by simp;omega)) (Eb ⟨⟨k+1,?_,hi,Qxb hg ha M⟩,hm⟩)));rw [Qyl M,QBz hg,Xk k (by omega)]
    refine Ea H (Ea (b:=w0) (by rw [hlt];exact H) (Ed (by rw [hlt,V];rfl) (Ea H (Ea (J4 hg) ?_))));by_cases U:(QB w0)[k]=48
    · have hb:decide ((QB w0)[k]=48)=true:=decide_eq_true U;refine Ea (b:=default) (by rw [hb];rfl) (Ea (b:=(0:Int)) (by rw [hb];rfl) (Ee (by rw [hb];rfl) (good ?_)));unfold dg;rw [hb];rfl
    · have hb:decide ((QB w0)[k]=48)=false:=decide_eq_false U;refine Ea (b:=w0) (by rw [hb];exact H) (Ea (b:=(QB w0)[k]) (by rw [hb];exact J4 hg) (Runs.bif (fun G=>?_) (fun G=>good ?_)))
      · refine Eb ?_;have M:dg (QB w0)[k]=false:=by
          unfold dg;rw [hb] at G ⊢;simpa using G
        show _=_;rw [if_neg (Qxa hg M)];rfl
      · unfold dg;rw [hb] at G ⊢;simpa using G
  · obtain rfl:k=w0.size:=by omega
    refine Ea H (Ea (b:=default) (by rw [XR];rfl) (Ee (by rw [XR];rfl) (Eb ?_)));rw [Ey (by omega)] at ha ⊢;show _=_;rw [ha,if_pos rfl]
/-! ### All trains -/
theorem QPl {l:List ByteArray} (hl:l.length<=2000) (hs:∀ s∈l,s.size<=900):Runs (loop (Qsm l) (0,([]:List Nh))) fun o=>o=match Xq Yb l with
  | some v=>.inr v
  | none=>.inl (noS,7):=by
 refine Eq_ (fun x=>∃ k:Nat,x.1=(k:Int)/\k<=l.length/\Xq Yb (l.take k)=some x.2) (fun x=>l.length - x.1.toNat) ⟨0,rfl,El _,by simp [Xq]⟩ ?_;rintro ⟨_,out⟩ ⟨k,rfl,hk,hm⟩;dsimp only at hm;unfold Qsm;by_cases hi:k < l.length
 ·have hw:=Ei hi;obtain ⟨⟨t,b⟩,e1,e2,e3⟩:=QPk (hs _ hw);dsimp only at e2 e3;have hol:=Qgo hm;rw [Er] at hol;refine Ed (XT hi) (Ea (Xo hi) (Ea e1 (Runs.bif (fun hb=>?_) (fun hb=>?_))))
  ·have hn:=Qng (o:=Yb l[k]) (by rw [<-e2];simpa using hb);refine Eb ?_;show _=_;rw [Qgp hw hn];rfl
  ·obtain ⟨m,hmm⟩:=Qoy (o:=Yb l[k]) (by rw [<-e2];simpa using hb);have:=e3 m hmm;subst this;refine Ea (ZK (by simp;omega)) (Eb ⟨⟨k+1,Xk k (by omega),hi,?_⟩,?_⟩)
   ·show Xq Yb (l.take (k+1))=some (out++[t]);rw [<-Eo hi];exact Qiq hm hmm
   ·show l.length - (w64 ((k:Int)+1)).toNat < l.length - ((k:Nat):Int).toNat;rw [Xk k (by omega)];simp;omega
 ·obtain rfl:k=l.length:=by omega
  refine Ee (XR _) (Eb ?_);rw [Ej] at hm;show _=_;rw [hm]
theorem QYi {w0 w1:ByteArray} {l:List ByteArray} {b:Bool} (hl:l.length<=2000) (hs:∀ s∈l,s.size<=900):Runs (loop (Quh (w0::w1::l)) (b,2,([]:List Nh))) fun o=>o.1=(b&&(Xq Yb l).isSome)/\∀ v,b=true->Xq Yb l=some v->o.2=v:=by
  refine Eq_ (fun x=>∃ k:Nat,x.2.1=((k+2:Nat):Int)/\k<=l.length/\x.2.2.length<=k/\((x.1=true/\b=true/\Xq Yb (l.take k)=some x.2.2)\/(x.1=false/\(b&&(Xq Yb l).isSome)=false))) (fun x=>l.length+2 - x.2.1.toNat) ⟨0,rfl,El _,Ez _,?_⟩ ?_
  · cases b with
    | true=>exact .inl ⟨rfl,rfl,by simp [Xq]⟩
    | false=>exact .inr ⟨rfl,rfl⟩
  · rintro ⟨c,_,out⟩ ⟨k,rfl,hk,hol,hc⟩;dsimp only at hol hc;unfold Quh;have hlw:(w0::w1::l).length=l.length+2:=rfl;rcases hc with ⟨rfl,rfl,hm⟩ | ⟨rfl,hf⟩
    · by_cases hi:k < l.length
      · have hw:=Ei hi;have hix:idx (w0::w1::l) ((k+2:Nat):Int)=some l[k]:=by
          rw [Xo?];show l[k]?=_;exact List.getElem?_eq_getElem hi
        obtain ⟨⟨t,c⟩,e1,e2,e3⟩:=QYh (hs _ hw);dsimp only at e2 e3;refine Ed (by rw [XT (show k+2 < (w0::w1::l).length by rw [hlw];omega)];rfl) (Ea hix (Ea e1 (Ea (ZK (by simp;omega)) (Eb ⟨⟨k+1,?_,hi,by simp;omega,?_⟩,?_⟩))))
        · show w64 (((k+2:Nat):Int)+1)=_;rw [Xk (k+2) (by omega)]
        · dsimp only;rw [e2];cases hb:(Yb l[k]).isSome with
          | true =>
            obtain ⟨m,hmm⟩:=Qoy hb;have:=e3 m hmm;subst this;refine .inl ⟨rfl,rfl,?_⟩;rw [<-Eo hi];exact Qiq hm hmm
          | false =>
            refine .inr ⟨rfl,?_⟩;rw [Qgp hw (Qng hb)];rfl
        · show l.length+2 - (w64 (((k+2:Nat):Int)+1)).toNat < l.length+2 - ((k+2:Nat):Int).toNat;rw [Xk (k+2) (by omega)];simp;omega
      · obtain rfl:k=l.length:=by omega
        refine Ee (by rw [show decide (((l.length+2:Nat):Int) < ((w0::w1::l).length:Nat))=false from XR _];rfl) (Eb ?_);rw [Ej] at hm;refine ⟨?_,fun v _ hv=>?_⟩
        · rw [hm];rfl
        · rw [hm] at hv;exact EF.inj hv
    · refine Ee (by simp) (Eb ⟨hf.symm,fun v hb hv=>?_⟩);rw [hb,hv] at hf;cases hf
/-! ### States -/
noncomputable def Js (w0 w1:ByteArray) (l:List ByteArray):Option Nf:=if w0=ByteArray.mk #[] then none else (ZO w0).bind fun sw=>(Xr w1).bind fun n=>(Xq Yb l).bind fun ts=>some ⟨sw,ts,n⟩
noncomputable def QDz:List ByteArray->Option Nf
 | w0::w1::G::ws=>Js w0 w1 (G::ws)
 | _=>none
noncomputable def Zr (s:ByteArray):Option Nf:=QDz (wd 32 s)
theorem Qrs {W:List ByteArray} (h:W.length < 3):QDz W=none:=by
 match W,h with
 | [],_=>rfl
 | [_],_=>rfl
 | [_,_],_=>rfl
theorem Qta {W:List ByteArray} (h:¬ W.length < 3):∃ w0 w1 G ws,W=w0::w1::G::ws:=by
 match W,h with
 | [],h=>exact absurd (by decide) h
 | [_],h=>exact absurd (show (1:Nat) < 3 by decide) h
 | [_,_],h=>exact absurd (show (2:Nat) < 3 by decide) h
 | w0::w1::G::ws,_=>exact ⟨w0,w1,G,ws,rfl⟩
section
variable {w0 w1:ByteArray} {l:List ByteArray}
theorem Qud (h:w0=ByteArray.mk #[]):Js w0 w1 l=none:=by unfold Js;rw [if_pos h]
theorem Que (h:ZO w0=none):Js w0 w1 l=none:=by
 unfold Js;rw [h];split<;>rfl
theorem Quf (h:Xr w1=none):Js w0 w1 l=none:=by
 unfold Js;rw [h];split
 ·rfl
 ·cases ZO w0<;>rfl
theorem Qug (h:Xq Yb l=none):Js w0 w1 l=none:=by
 unfold Js;rw [h];split
 ·rfl
 ·cases ZO w0
  ·rfl
  ·cases Xr w1<;>rfl
theorem Qno {sw:List Int} {n:Int} {ts:List Nh} (G:w0≠ByteArray.mk #[]) (H:ZO w0=some sw) (I:Xr w1=some n) (J:Xq Yb l=some ts):Js w0 w1 l=some ⟨sw,ts,n⟩:=by
 unfold Js;rw [if_neg G,H,I,J];rfl
end
def JG (o:Option Nf):Nf×Int:=match o with
 | some x=>(x,0)
 | none=>(noS,7)
def Qfa (o:Option Nf):Nf×Bool:=match o with
 | some x=>(x,true)
 | none=>(noS,false)
theorem QAa {s:ByteArray} (hs:s.size<=900):Qim s=some (JG (Zr s)):=by
  refine Et ?_;have H:=J2 (c:=32) (by decide) (s:=s) (by omega);have hln:=H.len;have hszs:=H.sz;unfold Qim;refine Ea H.spl ?_;unfold Zr;by_cases M:(wd 32 s).length < 3
  · rw [Qrs M];exact Ed (decide_eq_true (by omega)) (Eb rfl)
  refine Ee (decide_eq_false (by omega)) ?_;obtain ⟨w0,w1,G,ws,hW⟩:=Qta M;rw [hW] at hln hszs ⊢;have J:idx (w0::w1::G::ws) 0=some w0:=(Xo? (k:=0)).trans rfl;have O:idx (w0::w1::G::ws) 1=some w1:=(Xo? (k:=1)).trans rfl;have U:=hszs w0 (by simp);have V:=hszs w1 (by simp);show Runs _ (·=JG (Js w0 w1 (G::ws)));refine Ea J ?_;obtain ⟨n,n',e1,_,e3⟩:=Qal (s:=w1) (by omega);refine Eh (R:=fun o=>o=(match ZO w0 with | some v=>.inr v | none=>.inl (noS,7):(Nf×Int)⊕List Int)) ?_ ?_
  · unfold ZO;by_cases hd:w0=ByteArray.mk #[45]
    · rw [if_pos hd];exact Ee (by rw [decide_eq_true hd];rfl) (Eb rfl)
    · rw [if_neg hd];refine Ed (by rw [decide_eq_false hd];rfl) (Ea J (Ea (Qwa (by omega)) (Eh (QPj (by omega)) ?_)));rintro _ rfl;by_cases ha:(QB w0).all dg=true
      · rw [if_pos ha,if_pos ha];exact ES (Eb rfl)
      · rw [if_neg ha,if_neg ha];exact ET rfl
  rintro _ rfl;cases hsw:ZO w0 with
  | none =>
    rw [Que hsw];exact ET rfl
  | some sw =>
    refine ES (Ea O (Ea e1 ?_));cases hn:Xr w1 with
    | none =>
      rw [Quf hn];exact Ea (b:=default) rfl (Ed rfl (Eb rfl))
    | some m =>
      obtain ⟨rfl,_⟩:=e3 m hn;refine Ea (b:=w0) J ?_;by_cases I:w0=ByteArray.mk #[]
      · rw [Qud I];exact Ed (by rw [decide_eq_true I];rfl) (Eb rfl)
      · have hcut : cut (w0 :: w1 :: G :: ws) 2 (((w0 :: w1 :: G :: ws).length : Nat) : Int) = some (G :: ws) := by
          unfold cut;rw [if_pos (by simp;omega),EB,Ej];rfl
        refine Ee (by rw [decide_eq_false I];rfl) (Ea hcut (Eh (QPl (l:=G::ws) (by simp at hln ⊢;omega) fun w hw=>by have:=hszs w (Ef _ (Ef _ hw));omega) ?_));rintro _ rfl;cases hts:Xq Yb (G::ws) with
        | none =>
          rw [Qug hts];exact ET rfl
        | some ts =>
          rw [Qno I hsw hn hts];exact ES (Eb rfl)
theorem QYe {s:ByteArray} (hs:s.size<=900):Qny s=some (Qfa (Zr s)):=by
 refine Et ?_;have H:=J2 (c:=32) (by decide) (s:=s) (by omega);have hln:=H.len;have hszs:=H.sz;unfold Qny;refine Ea H.cut ?_;unfold Zr;by_cases O:(wd 32 s).length < 3
 ·have hd:decide (((wd 32 s).length:Int) < 3)=true:=decide_eq_true (by omega);rw [Qrs O];exact Ea (b:=default) (by rw [hd];rfl) (Ed (by rw [hd];rfl) (Eb rfl))
 have hd:decide (((wd 32 s).length:Int) < 3)=false:=decide_eq_false (by omega);obtain ⟨w0,w1,G,ws,hW⟩:=Qta O;rw [hW] at hln hszs hd ⊢;have U:idx (w0::w1::G::ws) 0=some w0:=(Xo? (k:=0)).trans rfl;have V:idx (w0::w1::G::ws) 1=some w1:=(Xo? (k:=1)).trans rfl;have Y:=hszs w0 (by simp);have aa:=hszs w1 (by simp);show Runs _ (·=Qfa (Js w0 w1 (G::ws)));refine Ea (b:=w0) (by rw [hd];exact U) ?_;by_cases I:w0=ByteArray.mk #[]
 ·rw [Qud I];exact Ed (by rw [decide_eq_true I];simp) (Eb rfl)
 ·obtain ⟨n,n',_,e2,e3⟩:=Qal (s:=w1) (by omega);refine Ee (by rw [hd,decide_eq_false I];rfl) (Eh (QYg (R:=w1::G::ws) (by omega)) ?_);rintro _ rfl;cases hsw:ZO w0 with
  | none =>
   rw [Que hsw];exact ET rfl
  | some sw =>
   refine ES (Ea V (Ea e2 (Eh (QYi (w0:=w0) (w1:=w1) (l:=G::ws) (b:=(Xr w1).isSome) (by simp at hln ⊢;omega) fun w hw=>by have:=hszs w (Ef _ (Ef _ hw));omega) ?_)));rintro ⟨c,out⟩ ⟨J,M⟩;dsimp only at J M ⊢;rw [J];cases hn:Xr w1 with
   | none =>
    rw [Quf hn];exact Ed rfl (Eb rfl)
   | some m =>
    cases hts:Xq Yb (G::ws) with
    | none =>
     rw [Qug hts];exact Ed rfl (Eb rfl)
    | some ts =>
     rw [Qno I hsw hn hts];refine Ee rfl (Eb ?_);rw [(e3 m hn).2.1,M ts (by rw [hn];rfl) hts];rfl
end Go.Gw

end
section
set_option maxRecDepth 4096
namespace Go.Gw
open Go
attribute [local irreducible] loop
def WRD:List ByteArray:=[(ByteArray.mk #[112,108,97,99,101]),(ByteArray.mk #[114,101,113,117,101,115,116]),(ByteArray.mk #[116,117,114,110]),(ByteArray.mk #[101,110,116,101,114]),(ByteArray.mk #[108,101,97,118,101]),(ByteArray.mk #[103,105,118,101]),(ByteArray.mk #[116,97,107,101])]
def kdF (w:ByteArray):Nat->List ByteArray->Int
 | _,[]=>-1
 | k,x::l=>if x=w then (k:Int) else kdF w (k+1) l
def kd (w:ByteArray):Int:=kdF w 0 WRD
theorem Qve (w:ByteArray):∀ (l:List ByteArray) (k:Nat),(Xt (YP (fun x=>decide (x=w)) (fun k _=>(k:Int)) k l) fun (_:Unit)=>some (-1))=some (kdF w k l)
 | [],k=>rfl
 | x::l,k=>by
  unfold YP kdF;by_cases h:x=w
  ·rw [if_pos (decide_eq_true h),if_pos h];rfl
  ·rw [if_neg (by rw [decide_eq_false h];decide),if_neg h];exact Qve w l (k+1)
theorem QPi (w:ByteArray):Qox WRD w=some (kd w):=by
  unfold Qox;rw [Z0 WRD (fun x=>decide (x=w)) (fun k _=>(k:Int))]
  · exact Qve w WRD 0
  · intro k hk;unfold Quz;rw [XT hk,cond_true,Xo hk,EG,Xk k (by have:WRD.length=7:=rfl;omega)];have:decide (w=WRD[k])=decide (WRD[k]=w):=by
      by_cases h:w=WRD[k]
      · rw [decide_eq_true h,decide_eq_true h.symm]
      · rw [decide_eq_false h,decide_eq_false fun e=>h e.symm]
    rw [this]
  · unfold Quz;rw [XR];rfl
theorem QXx (w:ByteArray):Qfd WRD w=some (kd w):=by
 unfold Qfd;rw [Z0 WRD (fun x=>decide (x=w)) (fun k _=>(k:Int))]
 ·exact Qve w WRD 0
 ·intro k hk;unfold Qjj;rw [XT hk,cond_true,Xo hk,EG,Xk k (by have:WRD.length=7:=rfl;omega)]
 ·unfold Qjj;rw [XR];rfl
/-! ### Events -/
noncomputable def Zq:List ByteArray->Option Nj
 | [w,a]=>if 2 < kd w then (Xr a).bind fun m=>some ⟨kd w,m,0⟩ else none
 | [w,a,b]=>if 0<=kd w/\kd w<=2 then (Xr a).bind fun m=>(Xr b).bind fun n=>some ⟨kd w,m,n⟩ else none
 | _=>none
noncomputable def YT (s:ByteArray):Option Nj:=Zq (wd 32 s)
def noE:Nj:=⟨0,0,0⟩
def ZB (o:Option Nj):Nj×Int:=match o with
 | some x=>(x,0)
 | none=>(noE,7)
def evR (o:Option Nj):Nj×Bool:=match o with
 | some x=>(x,true)
 | none=>(noE,false)
theorem Qzi (k:Int) (h:0<=k):Qin k=some (decide (k<=2)):=by
 unfold Qin;congr 1;by_cases G:k<=2
 ·rw [decide_eq_true G];have:k=0\/k=1\/k=2:=by omega
  rcases this with rfl | rfl | rfl<;>rfl
 ·rw [decide_eq_false G,decide_eq_false (show ¬ k=0 by omega),decide_eq_false (show ¬ k=1 by omega),decide_eq_false (show ¬ k=2 by omega)];rfl
theorem QDy {w:ByteArray} {l:List ByteArray} (h:kd w < 0):Zq (w::l)=none:=by
 unfold Zq;split
 ·rename_i e;cases e;rw [if_neg (by omega)]
 ·rename_i e;cases e;rw [if_neg (by omega)]
 ·rfl
theorem Qzz {s:ByteArray} (hs:s.size<=900):Qil s=some (ZB (YT s)):=by
  refine Et ?_;have G:=J2 (c:=32) (by decide) (s:=s) (by omega);have hln:=G.len;have hszs:=G.sz;unfold Qil;refine Ea G.spl ?_;obtain ⟨w,l,hW⟩:=G.ne;unfold YT;rw [hW] at hln hszs ⊢;have J:idx (w::l) 0=some w:=(Xo? (k:=0)).trans rfl;have hcut:cut (w::l) 1 (((w::l).length:Nat):Int)=some l:=Qyj (by simp);have hsl:∀ x∈l,x.size<=1000:=fun x hx=>by have:=hszs x (Ef _ hx);omega
  have hll:l.length<=2000:=by simp at hln;omega
  refine Ea J (Ea (QPi w) (Ea hcut (Ea (Qtu hll hsl) ?_)));by_cases hk:kd w < 0
  · rw [QDy hk];exact Ed (by rw [decide_eq_true hk];rfl) (Eb rfl)
  have H:0<=kd w:=by omega
  cases hm:Xq Xr l with
  | none =>
    refine Ed (by simp [Qiw]) (Eb ?_);show (noE,7)=_;have:Zq (w::l)=none:=by
      unfold Zq;split
      · rename_i e;cases e;split
        · rename_i a _;cases ha:Xr a with
          | none=>rfl
          | some m=>rw [Xq,ha] at hm;cases hm
        · rfl
      · rename_i e;cases e;split
        · rename_i a b _;cases ha:Xr a with
          | none=>rfl
          | some m =>
            cases hb:Xr b with
            | none=>rfl
            | some n=>rw [Xq,Xq,ha,hb] at hm;cases hm
        · rfl
      · rfl
    rw [this];rfl
  | some v =>
    have hvl:=Qgo hm;refine Ee (by rw [decide_eq_false hk];rfl) (Ea (Qzi (kd w) H) ?_);show Runs (bif (!decide ((v.length:Int)=_)) then _ else _) _;by_cases I:kd w<=2
    · rw [decide_eq_true I];by_cases hl:l.length=2
      · obtain ⟨a, b, rfl⟩ : ∃ a b, l = [a, b] := by
          match l,hl with
          | [a,b],_=>exact ⟨a,b,rfl⟩
        cases ha:Xr a with
        | none=>rw [Xq,ha] at hm;cases hm
        | some m =>
          cases hb:Xr b with
          | none=>rw [Xq,Xq,ha,hb] at hm;cases hm
          | some n =>
            rw [Xq,Xq,Xq,ha,hb] at hm;cases hm;have e:Zq [w,a,b]=some ⟨kd w,m,n⟩:=by
              unfold Zq;simp only [ha,hb];rw [if_pos ⟨H,I⟩];rfl
            rw [e];exact Ee rfl (Ea (b:=m) rfl (Ea (b:=n) rfl (Eb rfl)))
      · have e : Zq (w :: l) = none := by
          unfold Zq;split
          · rename_i e;cases e;rw [if_neg (by omega)]
          · rename_i e;cases e;exact absurd rfl hl
          · rfl
        rw [e];refine Ed ?_ (Eb rfl);rw [decide_eq_false];· rfl
        show ¬ (v.length:Int)=2;omega
    · rw [decide_eq_false I];by_cases hl:l.length=1
      · obtain ⟨a,rfl⟩:=EE.1 hl;cases ha:Xr a with
        | none=>rw [Xq,ha] at hm;cases hm
        | some m =>
          rw [Xq,Xq,ha] at hm;cases hm;have e:Zq [w,a]=some ⟨kd w,m,0⟩:=by
            unfold Zq;simp only [ha];rw [if_pos (by omega)];rfl
          rw [e];exact Ee rfl (Ea (b:=m) rfl (Ea (b:=(0:Int)) rfl (Eb rfl)))
      · have e : Zq (w :: l) = none := by
          unfold Zq;split
          · rename_i e;cases e;exact absurd rfl hl
          · rename_i e;cases e;rw [if_neg (by omega)]
          · rfl
        rw [e];refine Ed ?_ (Eb rfl);rw [decide_eq_false];· rfl
        show ¬ (v.length:Int)=1;omega
theorem Qni (k:Int):Qdh k=some (if k<=2 then 2 else 1):=by
 unfold Qdh;by_cases h:k<=2
 ·rw [decide_eq_true h,if_pos h];rfl
 ·rw [decide_eq_false h,if_neg h];rfl
theorem QXv {s:ByteArray} (hs:s.size<=900):Qnw s=some (evR (YT s)):=by
  refine Et ?_;have G:=J2 (c:=32) (by decide) (s:=s) (by omega);have hln:=G.len;have hszs:=G.sz;unfold Qnw;refine Ea G.cut ?_;obtain ⟨w,l,hW⟩:=G.ne;unfold YT;rw [hW] at hln hszs ⊢;have U:idx (w::l) 0=some w:=(Xo? (k:=0)).trans rfl;have hsl:∀ x∈l,x.size<=1000:=fun x hx=>by have:=hszs x (Ef _ hx);omega
  refine Ea U (Ea (b:=WRD) rfl (Ea (QXx w) ?_));by_cases hk:kd w < 0
  · rw [QDy hk];exact Ea (b:=default) (by rw [decide_eq_true hk];rfl) (Ed (by rw [decide_eq_true hk];rfl) (Eb rfl))
  have J:0<=kd w:=by omega
  have hd:=decide_eq_false hk;refine Ea (b:=if kd w<=2 then 2 else 1) (by rw [hd];exact Qni _) ?_;by_cases H:kd w<=2
  · rw [if_pos H];by_cases hl:l.length=2
    · obtain ⟨a, b, rfl⟩ : ∃ a b, l = [a, b] := by
        match l,hl with
        | [a,b],_=>exact ⟨a,b,rfl⟩
      obtain ⟨m,m',_,I,f3⟩:=Qal (hsl a (by simp));obtain ⟨n,n',_,M,O⟩:=Qal (hsl b (by simp));have e:Zq [w,a,b]=(Xr a).bind fun m=>(Xr b).bind fun n=>some ⟨kd w,m,n⟩:=by
        unfold Zq;exact if_pos ⟨J,H⟩
      rw [e];refine Ee (by rw [hd];rfl) (Ea (b:=a) rfl (Ea I ?_));cases ha:Xr a with
      | none =>
        refine Ea (b:=default) rfl (Eh (R:=fun x=>x=(false,0)) (Ee rfl (Eb rfl)) ?_);rintro _ rfl;exact Ed rfl (Eb rfl)
      | some p =>
        refine Ea (b:=(2:Int)) (by show Qdh _=_;rw [Qni,if_pos H]) (Eh (R:=fun x=>x=((Xr b).isSome,n')) (Ed rfl (Ea (b:=b) rfl (Ea M (Eb rfl)))) ?_);rintro _ rfl;cases hb:Xr b with
        | none=>exact Ed rfl (Eb rfl)
        | some q =>
          refine Ee rfl (Eb ?_);show (Nj.mk (kd w) m' n',true)=(Nj.mk (kd w) p q,true);rw [(f3 p ha).2.1,(O q hb).2.1]
    · have e : Zq (w :: l) = none := by
        unfold Zq;split
        · rename_i e;cases e;rw [if_neg (by omega)]
        · rename_i e;cases e;exact absurd rfl hl
        · rfl
      rw [e];refine Ed ?_ (Eb rfl);rw [hd,decide_eq_false];· rfl
      show ¬ (((w::l).length:Nat):Int)=3;rw [Em];omega
  · rw [if_neg H];by_cases hl:l.length=1
    · obtain ⟨a,rfl⟩:=EE.1 hl;obtain ⟨m,m',_,I,f3⟩:=Qal (hsl a (by simp));have e:Zq [w,a]=(Xr a).bind fun m=>some ⟨kd w,m,0⟩:=by
        unfold Zq;exact if_pos (by omega)
      rw [e];refine Ee (by rw [hd];rfl) (Ea (b:=a) rfl (Ea I ?_));cases ha:Xr a with
      | none =>
        refine Ea (b:=default) rfl (Eh (R:=fun x=>x=(false,0)) (Ee rfl (Eb rfl)) ?_);rintro _ rfl;exact Ed rfl (Eb rfl)
      | some p =>
        refine Ea (b:=(1:Int)) (by show Qdh _=_;rw [Qni,if_neg H]) (Eh (R:=fun x=>x=(true,0)) (Ee rfl (Eb rfl)) ?_);rintro _ rfl;refine Ee rfl (Eb ?_);show (Nj.mk (kd w) m' 0,true)=(Nj.mk (kd w) p 0,true);rw [(f3 p ha).2.1]
    · have e : Zq (w :: l) = none := by
        unfold Zq;split
        · rename_i e;cases e;exact absurd rfl hl
        · rename_i e;cases e;rw [if_neg (by omega)]
        · rfl
      rw [e];refine Ed ?_ (Eb rfl);rw [hd,decide_eq_false];· rfl
      show ¬ (((w::l).length:Nat):Int)=2;rw [Em];omega
end Go.Gw

end
section
set_option maxRecDepth 4096
namespace Go.Gw
open Go
attribute [local irreducible] loop
abbrev spb:ByteArray:=ByteArray.mk #[32]
theorem Qxx:QB spb=[32]:=rfl
theorem Qia {n:Int} (h:Y8 n):Xs n=Yw n:=by unfold Xs;rw [Qlm h];rfl
theorem Qri {n:Int} (h:Y8 n):DecOk n:=⟨by rw [Qia h];exact Qmj h,by rw [Qia h];exact Qlm h,by rw [Qia h];exact Qej h⟩
theorem Qjc {n:Int} (h:0<=n/\n < 10000):Y8 n:=by unfold Y8;omega
theorem Qqz {n:Int} (h:0<=n/\n < 10000):QB (Xs n)=Ya n:=by rw [Qia (Qjc h),Qef]
theorem Qll {n:Int} (h:0<=n/\n < 10000):(Xs n).size<=4:=by
 have G:Jt n=0:=by unfold Jt;rw [if_neg (by omega)]
 rw [<-YR,Qqz h,Qrh,G];exact Qis (by decide) (by omega)
theorem Qnn {n:Int} (h:0<=n/\n < 10000):Xr (Xs n)=some n:=QYl (by have:=Qll h;omega) h.1 h.2 (Qqz h)
theorem Qib {x n:Int} (h:0<=n/\n < 10000) (hx:x≠45/\(x < 48\/57 < x)):x∉QB (Xs n):=fun hm=>by
 rw [Qqz h] at hm;have:=Qlk hm;omega
theorem QKn {x n:Int} (hx:x≠45/\(x < 48\/57 < x)):x∉QB (Yw n):=fun hm=>by
 rw [Qef] at hm;have:=Qlk hm;omega
/-! ### Events -/
def ZS (k:Int):ByteArray:=WRD.getD k.toNat ByteArray.empty
theorem Qpr {k:Int} (h:0<=k/\k<=6):idx WRD k=some (ZS k)/\(ZS k).size<=7/\(32:Int)∉QB (ZS k)/\kd (ZS k)=k:=by
 have:k=0\/k=1\/k=2\/k=3\/k=4\/k=5\/k=6:=by omega
 rcases this with rfl | rfl | rfl | rfl | rfl | rfl | rfl
 ·exact ⟨rfl,by decide,by decide,by decide⟩
 ·exact ⟨rfl,by decide,by decide,by decide⟩
 ·exact ⟨rfl,by decide,by decide,by decide⟩
 ·exact ⟨rfl,by decide,by decide,by decide⟩
 ·exact ⟨rfl,by decide,by decide,by decide⟩
 ·exact ⟨rfl,by decide,by decide,by decide⟩
 ·exact ⟨rfl,by decide,by decide,by decide⟩
def JT (e:Nj):ByteArray:=if 0<=e.Kind/\e.Kind<=6 then (if e.Kind<=2 then ZS e.Kind++spb++Yw e.A++spb++Yw e.B else ZS e.Kind++spb++Yw e.A) else ByteArray.mk #[]
theorem Qru {e:Nj} (hA:Y8 e.A) (hB:Y8 e.B):(JT e).size<=60:=by
 have G:=Qej hA;have H:=Qej hB;have I:spb.size=1:=rfl;unfold JT;split
 ·rename_i h;have:=(Qpr h).2.1;split
  ·rw [Ec,Ec,Ec,Ec];omega
  ·rw [Ec,Ec];omega
 ·decide
theorem QPh {e:Nj} (hA:Y8 e.A) (hB:Y8 e.B):Qmr e=some (JT e):=by
 have G:=Qej hA;have H:=Qej hB;have I:(ByteArray.mk #[32]).size=1:=rfl;refine Et ?_;unfold Qmr JT;refine Ea (QPc e.Kind) ?_;by_cases h:0<=e.Kind/\e.Kind<=6
 ·rw [if_pos h];obtain ⟨w1,J,_,_⟩:=Qpr h;refine Ee (by rw [decide_eq_true h.1,decide_eq_true h.2];rfl) (Ea w1 (Ea (Zu (by omega)) (Ea (Qmj hA) (Ea (Zu (by rw [Ec];omega)) (Ea (Qzi e.Kind h.1) ?_)))));by_cases hk:e.Kind<=2
  ·rw [if_pos hk];refine Ed (decide_eq_true hk) (Ea (Qmj hB) (Ea (Zu (by omega)) (Ea (Zu (by rw [Ec,Ec,Ec];omega)) (Eb ?_))));rw [Qql (ZS e.Kind++spb++Yw e.A) spb (Yw e.B)]
  ·rw [if_neg hk];exact Ee (decide_eq_false hk) (Eb rfl)
 ·rw [if_neg h];refine Ed ?_ (Eb rfl);rw [ED,Eu,decide_eq_false_iff_not,decide_eq_false_iff_not];omega
theorem QXw {e:Nj} (hA:Y8 e.A) (hB:Y8 e.B):Qnu e=some (JT e):=by
 have G:=Qej hA;have H:=Qej hB;have I:(ByteArray.mk #[32]).size=1:=rfl;refine Et ?_;unfold Qnu JT;refine Ea (b:=decide (0<=e.Kind)&&decide (e.Kind<=6)) rfl ?_;by_cases h:0<=e.Kind/\e.Kind<=6
 ·rw [if_pos h];obtain ⟨w1,J,_,_⟩:=Qpr h;refine Ee (by rw [decide_eq_true h.1,decide_eq_true h.2];rfl) (Ea (b:=WRD) rfl (Ea w1 (Ea (Zu (by omega)) (Ea (Qlm hA) (Ea (Zu (by rw [Ec];omega)) (Ea (Qni e.Kind) ?_))))));by_cases hk:e.Kind<=2
  ·rw [if_pos hk,if_pos hk];exact Ed rfl (Ea (Zu (by rw [Ec,Ec];omega)) (Ea (Qlm hB) (Ea (Zu (by rw [Ec,Ec,Ec];omega)) (Eb rfl))))
  ·rw [if_neg hk,if_neg hk];exact Ee rfl (Eb rfl)
 ·rw [if_neg h];refine Ed ?_ (Eb rfl);rw [ED,Eu,decide_eq_false_iff_not,decide_eq_false_iff_not];omega
theorem QLs {p:Ng} (hp:PlantOk p) {e:Nj} (h:Qen p e=0):(0<=e.Kind/\e.Kind<=6)/\(0<=e.A/\e.A < 10000)/\(e.Kind<=2->0<=e.B/\e.B < 10000)/\(¬ e.Kind<=2->e.B=0):=by
 have G:=hp.s8;have H:=hp.t3;have I:=hp.w4;have J:=hp.r10;unfold Qen at h;split at h
 ·exact absurd h (by decide)
 rename_i hk;have hk:=Decidable.not_not.1 hk;split at h
 ·rename_i e2;cases hs:Qkb p e.A with
  | false=>rw [hs] at h;exact absurd h (show ¬ (6:Int)=0 by decide)
  | true =>
   cases hb:Z4 e.B with
   | false=>rw [hs,hb] at h;exact absurd h (by decide)
   | true =>
    unfold Qkb at hs;unfold Z4 at hb;rw [Es,decide_eq_true_eq,decide_eq_true_eq] at hs;rw [EO,decide_eq_true_eq,decide_eq_true_eq] at hb;exact ⟨hk,by omega,fun _=>by omega,fun hn=>by omega⟩
 ·rename_i e2;cases ht:Qfp p e.A with
  | false=>rw [ht] at h;exact absurd h (show ¬ (6:Int)=0 by decide)
  | true =>
   rw [ht,cond_true] at h;unfold Qfp at ht;rw [Es,decide_eq_true_eq,decide_eq_true_eq] at ht;split at h
   ·cases hs:Zb p e.B with
    | false=>rw [hs] at h;exact absurd h (by decide)
    | true =>
     unfold Zb at hs;rw [Es,decide_eq_true_eq,decide_eq_true_eq] at hs;exact ⟨hk,by omega,fun _=>by omega,fun hn=>by omega⟩
   ·split at h
    ·cases hs:Qjo p e.B with
     | false=>rw [hs] at h;exact absurd h (by decide)
     | true =>
      unfold Qjo at hs;rw [Es,decide_eq_true_eq,decide_eq_true_eq] at hs;exact ⟨hk,by omega,fun _=>by omega,fun hn=>by omega⟩
    ·split at h
     ·rename_i e3;exact ⟨hk,by omega,fun _=>by omega,fun hn=>e3⟩
     ·exact absurd h (by decide)
theorem QLr {p:Ng} (hp:PlantOk p) {e:Nj} (h:Qen p e=0):YT (JT e)=some e:=by
 obtain ⟨hk,hA,hB,I⟩:=QLs hp h;obtain ⟨_,_,M,w4⟩:=Qpr hk;have hrA:=Qjc hA;have H:∀ n:Int,(32:Int)∉QB (Yw n):=fun n=>QKn (by decide)
 have hrd:∀ {n:Int},0<=n/\n < 10000->Xr (Yw n)=some n:=fun {n} hn=>by rw [<-Qia (Qjc hn)];exact Qnn hn
 unfold YT;by_cases G:e.Kind<=2
 ·have hsz:=Qru hrA (Qjc (hB G));have e1:JT e=ZS e.Kind++spb++Yw e.A++spb++Yw e.B:=by unfold JT;rw [if_pos hk,if_pos G]
  have hw:wd 32 (JT e)=[ZS e.Kind,Yw e.A,Yw e.B]:=Qfs (by decide) (by omega) (by
   rw [e1,Z6,Z6,Z6,Z6,Qxx,Ek,Ek,Ek];show Yh (32:Int) (QB (ZS e.Kind)++32::(QB (Yw e.A)++32::QB (Yw e.B)))=_;rw [Qcc M,Qcc (H _),Qcb (H _)];rfl)
  rw [hw];show (if 0<=kd (ZS e.Kind)/\kd (ZS e.Kind)<=2 then (Xr (Yw e.A)).bind (fun m=>(Xr (Yw e.B)).bind fun n=>some (Nj.mk (kd (ZS e.Kind)) m n)) else none)=some e;rw [w4,hrd hA,hrd (hB G),if_pos ⟨hk.1,G⟩];rfl
 ·have J:=I G;have hsz:=Qru (e:=e) hrA (Qjc (by omega));have e1:JT e=ZS e.Kind++spb++Yw e.A:=by unfold JT;rw [if_pos hk,if_neg G]
  have hw:wd 32 (JT e)=[ZS e.Kind,Yw e.A]:=Qfs (by decide) (by omega) (by
   rw [e1,Z6,Z6,Qxx,Ek];show Yh (32:Int) (QB (ZS e.Kind)++32::QB (Yw e.A))=_;rw [Qcc M,Qcb (H _)];rfl)
  rw [hw];show (if 2 < kd (ZS e.Kind) then (Xr (Yw e.A)).bind (fun m=>some (Nj.mk (kd (ZS e.Kind)) m 0)) else none)=some e;rw [w4,hrd hA,if_pos (by omega)];show some (Nj.mk e.Kind e.A 0)=some e;rw [<-J]
/-! ### States -/
theorem QNk (x:Nf):Qik x=some true/\x.Nb.length<=6/\x.Na.length<=5/\(∀ t∈x.Na,t.Nc.length<=10)\/Qik x=some false:=by
 unfold Qik;cases hb:(decide (6 < (x.Nb.length:Int))||decide (5 < (x.Na.length:Int))) with
 | true=>exact .inr rfl
 | false =>
  rw [cond_false];simp only [Bool.or_eq_false_iff,decide_eq_false_iff_not] at hb;have I:loop (Qmq x) 0=some (YP (fun t:Nh=>decide (10 < (t.Nc.length:Int))) (fun _ _=>false) 0 x.Na):=Z0 x.Na _ _ (fun k hk=>by
   unfold Qmq;rw [XT hk,cond_true,Xo hk,EG,Xk k (by omega)]) (by unfold Qmq;rw [XR];rfl)
  rw [I,EG];rcases J0 (p:=fun t:Nh=>decide (10 < (t.Nc.length:Int))) (res:=fun _ _=>false) x.Na 0 with ⟨G,H⟩ | ⟨j,y,G,H,J⟩
  ·rw [G];rw [List.any_eq_false] at H;refine .inl ⟨rfl,by omega,by omega,fun t ht=>?_⟩;have:=H t ht;simp at this;omega
  ·rw [G];exact .inr rfl
def sv (n:Int):Int:=if n=0 then 48 else if n=1 then 49 else 63
theorem QJv (n:Int):QB (X7 n)=[sv n]:=by
 unfold X7 sv;split
 ·rfl
 ·split<;>rfl
theorem Qxv:∀ (l:List Int) (a:ByteArray),QB ((l.map X7).foldl (·++·) a)=QB a++l.map sv
 | [],a=>by simp
 | n::l,a=>by
  rw [Ev,EC,Qxv l,Z6,QJv,Ek];rfl
theorem QJu (l:List Int):QB (YH (l.map X7))=l.map sv:=by
 unfold YH;rw [Qxv];rfl
theorem Qvo {n:Int} (h:Z4 n=true):dg (sv n)=true/\sv n - 48=n:=by
 unfold Z4 at h;rw [EO,decide_eq_true_eq,decide_eq_true_eq] at h;rcases h with rfl | rfl
 ·exact ⟨rfl,rfl⟩
 ·exact ⟨rfl,rfl⟩
theorem Q3e:Yj []=ByteArray.mk #[45]:=by
 unfold Yj;exact if_pos rfl
theorem Q3d (n:Int) (l:List Int):QB (Yj (n::l))=(n::l).map sv:=by
 have h:=QJu (n::l);unfold Yj;rw [if_neg]
 ·exact h
 ·intro e;rw [e] at h;cases h
theorem Q3f {l:List Int} (h:∀ n∈l,Z4 n=true):ZO (Yj l)=some l/\Yj l≠ByteArray.mk #[]/\(32:Int)∉QB (Yj l):=by
 cases l with
 | nil =>
  rw [Q3e];refine ⟨rfl,by decide,by decide⟩
 | cons n l =>
  have hb:=Q3d n l;have hall:((n::l).map sv).all dg=true:=EM.2 fun c hc=>by
   obtain ⟨m,hm,rfl⟩:=En.1 hc;exact (Qvo (h m hm)).1
  have hmap:((n::l).map sv).map (· - 48)=n::l:=by
   rw [List.map_map]
   conv=>rhs;rw [<-List.map_id (n::l)]
   exact List.map_congr_left fun m hm=>(Qvo (h m hm)).2
  refine ⟨?_,fun e=>?_,fun hm=>?_⟩
  ·unfold ZO;rw [if_neg fun e=>?_,hb,if_pos hall,hmap];rw [e] at hb;have H:sv n=45:=(List.cons.inj hb).1.symm;have G:=(Qvo (h n (Eg ..))).1;rw [H] at G;cases G
  ·rw [e] at hb;cases hb
  ·rw [hb] at hm;have G:=EM.1 hall _ hm;cases G
theorem Qtb {α β:Type} {f:β->Option α} {g:α->β}:∀ {l:List α},(∀ a∈l,f (g a)=some a)->Xq f (l.map g)=some l
 | [],_=>rfl
 | a::l,h=>by
  rw [Ev];unfold Xq;rw [h a (Eg ..),Qtb fun b hb=>h b (Ef _ hb)]
structure TrainOk (t:Nh):Prop where
 un:(t.Nc=[]/\t.Nl=0)\/(1<=t.Nl/\t.Nl<=t.Nc.length)
 len:t.Nc.length<=10
 ch:∀ s∈t.Nc,0<=s/\s < 10000
theorem Qwb {t:Nh} (h:TrainOk t):Yb (X9 t)=some t/\(32:Int)∉QB (X9 t)/\(X9 t).size<=60:=by
  unfold X9;by_cases he:t.Nc.length=0/\t.Nl=0
  · rw [if_pos he];refine ⟨?_,by decide,by decide⟩;unfold Yb;rw [if_pos rfl];have:t.Nc=[]:=EN.1 he.1;cases t;simp_all
  · rw [if_neg he];obtain ⟨O,I⟩:1<=t.Nl/\t.Nl<=t.Nc.length:=by
      rcases h.un with ⟨e1,e2⟩ | e
      · exact absurd ⟨by rw [e1];rfl,e2⟩ he
      · exact e
    have hl:=h.len;have hu:0<=t.Nl/\t.Nl < 10000:=by omega
    obtain ⟨a,l,hc⟩:∃ a l,t.Nc=a::l:=by
      cases hc:t.Nc with
      | nil=>rw [hc] at I;simp at I;omega
      | cons a l=>exact ⟨a,l,rfl⟩
    have hch:=h.ch;have hno:∀ {x:Int},x≠44->(x≠45/\(x < 48\/57 < x))->x∉QB (X2 ⟨#[44]⟩ (t.Nc.map Xs)):=fun {x} J M hm=>by
      rw [hc,Ev] at hm;rcases Qzx _ _ hm with hm | ⟨w,hw,hm⟩
      · have:x=44:=by simpa using (show x∈([44]:List Int) from hm)
        exact J this
      · rw [<-Ev,<-hc] at hw;obtain ⟨n,hn,rfl⟩:=En.1 hw;exact Qib (hch n hn) M hm
    have hjs:(X2 ⟨#[44]⟩ (t.Nc.map Xs)).size<=50:=by
      have:=Qii (sep:=⟨#[44]⟩) (m:=4) (Ez _) (l:=t.Nc.map Xs) fun s hs=>by
        obtain ⟨n,hn,rfl⟩:=En.1 hs;exact Qll (hch n hn)
      rw [Ex] at this;omega
    have hds:=Qll hu;have hz:(Xs t.Nl++⟨#[58]⟩++X2 ⟨#[44]⟩ (t.Nc.map Xs)).size<=60:=by
      rw [Ec,Ec];have:(ByteArray.mk #[58]).size=1:=rfl;omega
    have G:QB (Xs t.Nl++⟨#[58]⟩++X2 ⟨#[44]⟩ (t.Nc.map Xs))=QB (Xs t.Nl)++58::QB (X2 ⟨#[44]⟩ (t.Nc.map Xs)):=by
      rw [Z6,Z6,Ek];rfl
    refine ⟨?_,?_,hz⟩
    · have hw : wd 58 (Xs t.Nl ++ ⟨#[58]⟩ ++ X2 ⟨#[44]⟩ (t.Nc.map Xs)) = [Xs t.Nl, X2 ⟨#[44]⟩ (t.Nc.map Xs)] := Qfs (by decide) (by omega) (by
        rw [G];show Yh (58:Int) _=_;rw [Qcc (Qib hu (by decide)),Qcb (hno (by decide) (by decide))];rfl)
      have H:wd 44 (X2 ⟨#[44]⟩ (t.Nc.map Xs))=t.Nc.map Xs:=Qfs (by decide) (by omega) (by
        have hn:∀ w∈t.Nc.map Xs,(44:Int)∉QB w:=fun w hw=>by
          obtain ⟨n,hn,rfl⟩:=En.1 hw;exact Qib (hch n hn) (by decide)
        rw [hc,Ev] at hn ⊢;exact Qva (c:=44) rfl _ _ hn)
      unfold Yb;rw [if_neg,hw]
      · simp only [Qnn hu,H,Qtb fun n hn=>Qnn (hch n hn)]
      · intro e;rw [e] at G;have:(58:Int)∈QB (ByteArray.mk #[45]):=by rw [G];simp
        revert this;decide
    · rw [G];intro hm;rcases Ew.1 hm with hm | hm
      · exact Qib hu (by decide) hm
      · rcases Ep.1 hm with hm | hm
        · exact absurd hm (by decide)
        · exact hno (by decide) (by decide) hm
theorem Q4n {p:Ng} (hp:PlantOk p) {x:Nf} (h:StateOk p x) {t:Nh} (ht:t∈x.Na):TrainOk t:=by
 have G:=hp.s8;refine ⟨h.un t ht,by have:=h.len ht;omega,fun s hs=>?_⟩;have:=h.sc t ht s hs;unfold Zb at this;rw [Es,decide_eq_true_eq,decide_eq_true_eq] at this;omega
theorem Q2e {p:Ng} (hp:PlantOk p) {x:Nf} (h:StateOk p x):Zr (fmt x)=some x/\(fmt x).size<=900:=by
 have hcnt:=h.cnt;unfold Qeg at hcnt;rw [Es,decide_eq_true_eq,decide_eq_true_eq] at hcnt;have hc:0<=x.Ni/\x.Ni < 10000:=by omega
 obtain ⟨I,J,M⟩:=Q3f h.pos;have hsl:(Yj x.Nb).size<=60:=by
  have O:=hp.w4;have H:=h.sw;unfold Yj;split
  ·decide
  ·have:=Qlg x.Nb;omega
 have hT:∀ t∈x.Na,TrainOk t:=fun t ht=>Q4n hp h ht
 have hlen:x.Na.length<=3:=by rw [h.tr];exact hp.t3
 have G:1<=x.Na.length:=by rw [h.tr];exact hp.t1
 have hsz:(fmt x).size<=900:=by
  have:=Qii (sep:=⟨#[32]⟩) (m:=60) (Ez _) (l:=[Yj x.Nb,Xs x.Ni]++x.Na.map X9) fun s hs=>by
   rcases Ew.1 hs with hs | hs
   ·have:=Qll hc;simp at hs;rcases hs with rfl | rfl<;>omega
   ·obtain ⟨t,ht,rfl⟩:=En.1 hs;exact (Qwb (hT t ht)).2.2
  have H:([Yj x.Nb,Xs x.Ni]++x.Na.map X9).length<=5:=by simp;omega
  have U:=EJ (60+1) H;unfold fmt;omega
 refine ⟨?_,hsz⟩;have hw:wd 32 (fmt x)=Yj x.Nb::Xs x.Ni::x.Na.map X9:=Qfs (by decide) (by omega) (Qva (c:=32) rfl _ _ fun w hw=>by
  rcases Ep.1 hw with rfl | hw
  ·exact M
  ·rcases Ep.1 hw with rfl | hw
   ·exact Qib hc (by decide)
   ·obtain ⟨t,ht,rfl⟩:=En.1 hw;exact (Qwb (hT t ht)).2.1)
 unfold Zr;rw [hw];have hts:Xq Yb (x.Na.map X9)=some x.Na:=Qtb fun t ht=>(Qwb (hT t ht)).1
 cases hx:x.Na with
 | nil=>rw [hx] at G;simp at G
 | cons t ts =>
  rw [hx,Ev] at hts;rw [Ev];show Js _ _ (X9 t::ts.map X9)=_;rw [Qno J I (Qnn hc) hts,<-hx]
theorem QYo {s:ByteArray} {x:Nf} (hs:s.size<=900) (h:Zr s=some x):StateS x:=by
 have I:=J2 (c:=32) (by decide) (s:=s) (by omega);have hln:=I.len;have hszs:=I.sz;unfold Zr at h;by_cases U:(wd 32 s).length < 3
 ·rw [Qrs U] at h;cases h
 obtain ⟨w0,w1,V,ws,hW⟩:=Qta U;rw [hW] at h hln hszs;replace h:Js w0 w1 (V::ws)=some x:=h;cases G:ZO w0 with
 | none=>rw [Que G] at h;cases h
 | some sw =>
  cases O:Xr w1 with
  | none=>rw [Quf O] at h;cases h
  | some n =>
   cases H:Xq Yb (V::ws) with
   | none=>rw [Qug H] at h;cases h
   | some ts =>
    by_cases M:w0=ByteArray.mk #[]
    ·rw [Qud M] at h;cases h
    ·rw [Qno M G O H] at h;cases h;refine ⟨?_,?_,fun t ht=>?_⟩
     ·have aa:=hszs w0 (by simp);unfold ZO at G;split at G
      ·cases G;show (0:Nat) < 1000;decide
      ·split at G
       ·cases G;show ((QB w0).map (· - 48)).length < 1000;rw [Ex,YR];omega
       ·cases G
     ·have:=Qgo H;show ts.length < 1000;rw [this];simp at hln ⊢;omega
     ·obtain ⟨w,hw,e⟩:=QBy H t ht;have hwz:=hszs w (Ef _ (Ef _ hw));unfold Yb at e;split at e
      ·cases e;show (0:Nat) < 1000;decide
      ·split at e
       ·rename_i A B hAB;have J:=(J2 (c:=58) (by decide) (s:=w) (by omega)).sz;rw [hAB] at J;have hB:=J B (by simp);have Y:=(J2 (c:=44) (by decide) (s:=B) (by omega)).len;split at e
        ·rename_i u v hu hv;cases e;have:=Qgo hv;show v.length < 1000;omega
        ·cases e
       ·cases e
end Go.Gw

end
