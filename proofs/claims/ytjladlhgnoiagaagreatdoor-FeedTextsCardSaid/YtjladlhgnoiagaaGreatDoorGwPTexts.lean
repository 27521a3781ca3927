/- Feed: texts of departures. Condition: numbers of 64 bits. -/
import Derived.Test.YtjladlhgnoiagaaGreatDoorGwTx2
import Derived.Test.YtjladlhgnoiagaaGreatDoorGwParA
import Derived.Test.YtjladlhgnoiagaaGreatDoorGwLawFeedTexts
import Derived.Test.YtjladlhgnoiagaaGreatDoorGwOpen
set_option linter.unusedVariables false
set_option linter.unusedSimpArgs false
set_option linter.unusedSectionVars false
set_option maxRecDepth 4096
set_option linter.unusedVariables false
open Go.Gw.Runs renaming call→Ea,some→Eb,bif_t→Ec,bif_f→Ed,eq→Ee
open Option renaming bind_some→Ef
open List renaming cons→Eg,getElem_zipIdx→Ei,length→Ej
open ByteArray renaming size_append→Eh
namespace Go.Gw
open Go
attribute [local irreducible] loop
theorem Qke {α ρ:Type} {p:α->Bool} {res:Nat->α->ρ}:∀ (l:List α) (k:Nat),(Ji p res k l=.inr ()/\l.any p=false)\/∃ j x,Ji p res k l=.inl (res j x)/\p x=true/\l.any p=true
 | [],k=>.inl ⟨rfl,rfl⟩
 | x::xs,k=>by
  by_cases h:p x=true
  ·exact .inr ⟨k,x,by simp [Ji,h],h,by simp [h]⟩
  ·rcases Qke xs (k+1) (p:=p) (res:=res) with ⟨h1,h2⟩ | ⟨j,y,h1,h2,h3⟩
   ·exact .inl ⟨by simp [Ji,h,h1],by simp [h,h2]⟩
   ·exact .inr ⟨j,y,by simp [Ji,h,h1],h2,by simp [h3]⟩
/-! ### Names -/
def J9 (q:Int×Nat):Bool:=(!(((decide (97<=q.1))&&(decide (q.1<=122)))||((decide (65<=q.1))&&(decide (q.1<=90)))))&&((decide ((q.2:Int)=0))||((!decide (q.1=45))&&((decide (q.1 < 48))||(decide (57 < q.1)))))
def bi (s:ByteArray):List Int:=bl s
theorem Qek (s:ByteArray):(bi s).length=s.size:=Zr s
theorem Qog {s:ByteArray} {k:Nat} (h:k < (bi s).length):idx (α:=Int) (bl s) (k:Int)=some (bi s)[k]:=Jb (xs:=bi s) h
def ZM (s:ByteArray):Bool:=decide (1<=s.size)&&(decide (s.size<=12)&&!((bi s).zipIdx.any J9))
theorem Qqz (s:ByteArray):s=ByteArray.mk #[]↔s.size=0:=by
 constructor
 ·intro h;subst h;rfl
 ·intro h;cases s with
  | mk d =>
   congr 1;exact Array.eq_empty_of_size_eq_zero h
theorem Qlq (s:ByteArray):Qci s=some (ZM s):=by
  unfold Qci ZM;have hlen:(bi s).zipIdx.length=s.size:=by rw [List.length_zipIdx,Qek]
  by_cases h:1<=s.size/\s.size<=12
  · have : (decide ((s.size : Int) < 1) || decide (12 < (s.size : Int))) = false := by
      rw [decide_eq_false (by omega),decide_eq_false (by omega)];rfl
    rw [this,cond_false,Qow (bi s).zipIdx J9 (fun _ _=>false),Ef]
    · rcases Qke (p:=J9) (res:=fun _ _=>false) (bi s).zipIdx 0 with ⟨k1,k2⟩ | ⟨j,x,k1,k2,k3⟩
      · rw [k1,k2];simp [h,XK]
      · rw [k1,k3];simp [XK]
    · intro k hk;rw [hlen] at hk;unfold Qhm;rw [Qag hk,cond_true,Qog (show k < (bi s).length by rw [Qek];exact hk),Ef,YZ k (by omega)];simp only [Ei,Nat.zero_add];rfl
    · rw [hlen];unfold Qhm;rw [Qah];rfl
  · have : (decide ((s.size : Int) < 1) || decide (12 < (s.size : Int))) = true := by
      by_cases h1:s.size < 1
      · rw [decide_eq_true (by omega)];rfl
      · rw [decide_eq_true (p:=12 < (s.size:Int)) (by omega)];simp
    rw [this,cond_true];congr 1;by_cases h1:1<=s.size
    · rw [decide_eq_false (p:=s.size<=12) (by omega)];simp
    · rw [decide_eq_false h1];rfl
theorem Qwi (s:ByteArray) (hs:s.size<=1000):Qcs s=some (ZM s):=by
 unfold Qcs ZM;have hlen:(bi s).zipIdx.length=s.size:=by rw [List.length_zipIdx,Qek]
 have ht:JC s=some (bl s):=by unfold JC;rw [if_pos (by omega)]
 rw [ht,Ef,Qow (bi s).zipIdx J9 (fun _ _=>false),Ef]
 ·rcases Qke (p:=J9) (res:=fun _ _=>false) (bi s).zipIdx 0 with ⟨k1,k2⟩ | ⟨j,x,k1,k2,k3⟩
  ·rw [k1,k2];simp only [XK,Bool.not_false,Bool.and_true,Option.some.injEq];by_cases h0:s.size=0
   ·rw [decide_eq_true ((Qqz s).2 h0),decide_eq_false (show ¬ 1<=s.size by omega)];rfl
   ·rw [decide_eq_false (fun e=>h0 ((Qqz s).1 e)),decide_eq_true (show 1<=s.size by omega)];simp only [Bool.not_false,Bool.true_and];by_cases h1:s.size<=12
    ·rw [decide_eq_true h1,decide_eq_true (by omega)]
    ·rw [decide_eq_false h1,decide_eq_false (by omega)]
  ·rw [k1,k3];simp [XK]
 ·intro k hk;rw [hlen] at hk;have hk2:k < (bl s).length:=by rw [Zr];exact hk
  unfold Qii;rw [Qag hk2,cond_true,Qog (show k < (bi s).length by rw [Qek];exact hk),Ef,YZ k (by omega)];simp only [Ei,Nat.zero_add];rfl
 ·rw [hlen,show (s.size:Int)=((bl s).length:Int) by rw [Zr]];unfold Qii;rw [Qah];rfl
/-! ### Texts -/
theorem Qpa {s:ByteArray} (h:ZM s=true):(32:Int)∉QD s/\s≠ByteArray.mk #[]:=by
 unfold ZM at h;rw [Bool.and_eq_true,Bool.and_eq_true,decide_eq_true_eq] at h;obtain ⟨h1,_,h3⟩:=h;refine ⟨fun hm=>?_,fun e=>by rw [e] at h1;exact absurd h1 (by decide)⟩;obtain ⟨k,hk,e⟩:=List.getElem_of_mem hm;have h4:(bi s).zipIdx.any J9=false:=by simpa using h3
 have hk':(bi s)[k]?=some 32:=by
  show (QD s)[k]?=_;rw [List.getElem?_eq_getElem hk,e]
 have h5:=List.any_eq_false.1 h4 ((32:Int),k) (by rw [List.mem_zipIdx_iff_getElem?];exact hk');apply h5;unfold J9;simp
theorem Qoz:∀ {a b:List ByteArray},a.map QD=b.map QD->a=b
 | [],[],_=>rfl
 | [],_::_,h=>by cases h
 | _::_,[],h=>by cases h
 | x::a,y::b,h=>by
  obtain ⟨h1,h2⟩:=Eg.inj h;rw [JQ h1,Qoz h2]
theorem QIu {b:ByteArray} (hs:b.size<=1000):Runs (Qgg b (ByteArray.mk #[45])) fun q=>∀ n,QD b=Xw n->q.size=nd n.natAbs:=by
  have hlen:=YA b;have hz:(ByteArray.mk #[45]).size=1:=rfl;have h45:QD (ByteArray.mk #[45])=[45]:=rfl;unfold Qgg;refine Runs.bind (Runs.mono (Q:=fun q=>∀ n,QD b=Xw n->q.size=nd n.natAbs) ?_ fun q hq=>Eb hq);unfold Qja;refine Runs.callR (R:=fun r=>r=true↔∃ t,QD b=45::t) ?_ ?_
  · unfold Qiz;rw [hz];by_cases h1:1<=b.size
    · obtain ⟨p,p1,p2⟩:=J0 (s:=b) (a:=0) (b:=1) (Nat.zero_le _) h1;refine Ea (b:=p) (by rw [decide_eq_true (by omega)];exact p1) (Eb ?_);rw [decide_eq_true (by omega),Bool.true_and,decide_eq_true_eq];refine ⟨fun e=>?_,fun ⟨t,e⟩=>JQ ?_⟩
      · have:QD p=[45]:=by rw [e];rfl
        rw [p2] at this;cases h:QD b with
        | nil=>rw [h] at this;cases this
        | cons c t =>
          rw [h] at this;exact ⟨t,by rw [(Eg.inj this).1]⟩
      · rw [p2,e,h45];rfl
    · refine Ea (b:=default) (by rw [decide_eq_false (by omega)];rfl) (Eb ?_);rw [decide_eq_false (by omega),Bool.false_and];refine ⟨(fun e=>by cases e),fun ⟨t,e⟩=>?_⟩;rw [e] at hlen;simp at hlen;omega
  intro r hr;refine Runs.bif (fun hb=>?_) (fun hb=>?_)
  · obtain ⟨t,e⟩:=hr.1 hb;have h1:1<=b.size:=by rw [<-hlen,e];simp
    obtain ⟨p,p1,p2⟩:=J0 (s:=b) (a:=1) (b:=b.size) h1 (Nat.le_refl _);refine Ea p1 (Eb fun n hn=>?_);rw [<-YA,p2,List.take_of_length_le (by omega),e];rw [e] at hn;rcases Qeu hn with ⟨_,_,e3⟩ | ⟨e1,_⟩
    · rw [<-JS (nd n.natAbs) n.natAbs];exact congrArg Ej e3
    · exact absurd rfl e1
  · refine Eb fun n hn=>?_;rw [<-hlen,hn,Qco];have:Zz n=0:=by
      unfold Zz;rw [if_neg];intro h0;have h1:=hr.2 ⟨Ya n.natAbs,by rw [hn];unfold Xw;rw [if_pos h0]⟩;rw [hb] at h1;cases h1
    omega
theorem Qrq (c:Int):∀ (l:List Int),∀ p∈Yc c l,p.length<=l.length
 | [],p,h=>by
  rw [Yc,List.mem_singleton] at h;subst h;simp
 | x::l,p,h=>by
  have ih:=Qrq c l;obtain ⟨a,b,e⟩:=Qkd c l;rw [e] at ih;unfold Yc at h;split at h
  ·rcases List.mem_cons.1 h with rfl | h
   ·simp
   ·rw [e] at h;have:=ih p h;simp;omega
  ·rw [e] at h;rcases List.mem_cons.1 h with rfl | h
   ·have:=ih a (List.mem_cons_self ..);simp;omega
   ·have:=ih p (List.mem_cons_of_mem _ h);simp;omega
theorem Qqc {t:ByteArray} (ht:t.size<=1000):∃ r,Qfa t=some r/\Qjt t=some r/\(∀ a n,Yc 32 (QD t)=[QD a,Xw n]->ZM a=true->nd n.natAbs<=9->r=(⟨a,n⟩,0)):=by
 obtain ⟨W,hW,hm⟩:=QHc (s:=t) (c:=32) (by decide) (by omega);obtain ⟨W',hW',hm'⟩:=Qvg (s:=t) (c:=32) (by omega);obtain rfl:W=W':=Qoz (hm.trans hm'.symm);have hsz:∀ w∈W,w.size<=1000:=fun w hw=>by
  have h1:=Qrq 32 (QD t) (QD w) (by
   have h2:QD w∈W.map QD:=List.mem_map_of_mem hw;exact hm▸h2)
  rw [YA,YA] at h1;omega
 rcases W with _ | ⟨a,_ | ⟨b,_ | ⟨c,W⟩⟩⟩
 ·exact absurd hm (by obtain ⟨x,y,e⟩:=Qkd (32:Int) (QD t);intro h;rw [show ((32:Nat):Int)=32 from rfl,e] at h;cases h)
 ·refine ⟨(⟨ByteArray.empty,0⟩,7),Ee ?_,Ee ?_,fun a' n h=>?_⟩
  ·exact Ea hW (Ea (b:=default) rfl (Ec rfl (Eb rfl)))
  ·exact Ea hW' (Ea (b:=default) rfl (Ec rfl (Eb rfl)))
  ·have h:=congrArg Ej (hm.trans h);simp at h
 · -- two parts
  have hb:=hsz b (by simp);have ha:=hsz a (by simp);have hnm:=Qwi a ha;have hnm':=Qlq a;by_cases h0:a=ByteArray.mk #[]
  ·refine ⟨(⟨ByteArray.empty,0⟩,7),Ee ?_,Ee ?_,fun a' n h hn=>?_⟩
   ·exact Ea hW (Ea (b:=a) rfl (Ec (by rw [h0];rfl) (Eb rfl)))
   ·exact Ea hW' (Ea (b:=a) rfl (Ec (by rw [h0];rfl) (Eb rfl)))
   ·have h:=hm.trans h;have:a=a':=JQ (Eg.inj h).1;exact absurd h0 (this▸(Qpa hn).2)
  have hcond:((!decide ((([a,b]:List ByteArray).length:Int)=2))||decide (a=ByteArray.mk #[]))=false:=by rw [decide_eq_false h0];rfl
  obtain ⟨⟨v,e⟩,hAt,hv,hdec⟩:=Qua (s:=b) (by omega);obtain ⟨q,hq,hqs⟩:=QIu hb;obtain ⟨r,hr,hR⟩:=QEk (s:=b) (d:=9) (by decide) (by omega);have hit:=Qor (n:=v) hv;rcases hR with ⟨n,rfl,hn,hl⟩ | ⟨rfl,hno⟩
  · -- a number of at most nine digits
   have hbl:=YA b;have hs1:Zz n<=1:=by unfold Zz;split<;>omega
   have hvn:=hdec n hn (by omega);rw [Prod.mk.injEq] at hvn;obtain ⟨rfl,rfl⟩:=hvn;have hbd:YL v=b:=JQ (by rw [Qbh,hn]);have hq9:=hqs v hn;have hnd:nd v.natAbs<=9:=by rw [hn,Qco] at hl;omega
   refine ⟨bif ZM a then (⟨a,v⟩,0) else (⟨ByteArray.empty,0⟩,4),Ee ?_,Ee ?_,fun a' n' h hn' _=>?_⟩
   ·refine Ea hW (Ea (b:=a) rfl (Ed hcond (Ea (b:=b) rfl (Ea hAt (Ea (b:=b) rfl (Ea (b:=YL v) hit (Ea (b:=b) (by rw [decide_eq_true hbd];rfl) (Ea (b:=q) (by rw [decide_eq_true hbd];exact hq) (Ed ?_ (Ea (b:=a) rfl (Ea hnm ?_)))))))))))
    ·rw [decide_eq_true hbd,decide_eq_false (p:=(9:Int) < (q.size:Int)) (by omega)];rfl
    ·cases ZM a
     ·exact Ec rfl (Eb rfl)
     ·exact Ed rfl (Ea (b:=a) rfl (Eb rfl))
   ·refine Ea hW' (Ea (b:=a) rfl (Ed hcond (Ea (b:=b) rfl (Ea hr (Ed rfl (Ea (b:=a) rfl (Ea hnm' ?_)))))));cases ZM a
    ·exact Ec rfl (Eb rfl)
    ·exact Ed rfl (Ea (b:=a) rfl (Eb rfl))
   ·have h:=hm.trans h;have e1:a=a':=JQ (Eg.inj h).1;have e2:Xw v=Xw n':=by rw [<-hn];exact (Eg.inj (Eg.inj h).2).1
    rw [<-e1,<-Qvh e2];rw [<-e1] at hn';rw [hn'];rfl
  · -- no such number
   refine ⟨(⟨ByteArray.empty,0⟩,7),Ee ?_,Ee ?_,fun a' n' h hn' h9=>?_⟩
   ·refine Ea hW (Ea (b:=a) rfl (Ed hcond (Ea (b:=b) rfl (Ea hAt ?_))));by_cases he:e=0
    ·subst he;refine Ea (b:=b) rfl (Ea (b:=YL v) hit ?_);by_cases hbd:YL v=b
     ·have hn:QD b=Xw v:=by rw [<-hbd,Qbh]
      have hq9:=hqs v hn;have h9:=hno v hn;rw [hn,Qco] at h9;refine Ea (b:=b) (by rw [decide_eq_true hbd];rfl) (Ea (b:=q) (by rw [decide_eq_true hbd];exact hq) (Ec ?_ (Eb rfl)));rw [decide_eq_true (p:=(9:Int) < (q.size:Int)) (by omega)];simp
     ·refine Ea (b:=default) (by rw [decide_eq_false hbd];rfl) (Ea (b:=default) (by rw [decide_eq_false hbd];rfl) (Ec ?_ (Eb rfl)));rw [decide_eq_false hbd];rfl
    ·have hd:decide (e=0)=false:=decide_eq_false he;refine Ea (b:=default) (by rw [hd];rfl) (Ea (b:=default) (by rw [hd];rfl) (Ea (b:=default) (by rw [hd];rfl) (Ea (b:=default) (by rw [hd];rfl) (Ec (by rw [hd];rfl) (Eb rfl)))))
   ·exact Ea hW' (Ea (b:=a) rfl (Ed hcond (Ea (b:=b) rfl (Ea hr (Ec rfl (Eb rfl))))))
   ·exfalso;have h:=hm.trans h;have e2:QD b=Xw n':=(Eg.inj (Eg.inj h).2).1;have:=hno n' e2;rw [e2,Qco] at this;omega
 ·refine ⟨(⟨ByteArray.empty,0⟩,7),Ee ?_,Ee ?_,fun a' n h=>?_⟩
  ·refine Ea hW (Ea (b:=default) ?_ (Ec ?_ (Eb rfl)))
   ·rw [decide_eq_false (by simp;omega)];rfl
   ·rw [decide_eq_false (by simp;omega)];rfl
  ·refine Ea hW' (Ea (b:=default) ?_ (Ec ?_ (Eb rfl)))
   ·rw [decide_eq_false (by simp;omega)];rfl
   ·rw [decide_eq_false (by simp;omega)];rfl
  ·have h:=congrArg Ej (hm.trans h);simp at h
theorem Qtf (x:Nf) (s:ByteArray) (hx:x.Ni.size<=maxLen/\R64 x.At) (_:s.size<=maxLen):Qjd x s=some true:=by
 refine Ee ?_;unfold Qjd;refine Ea Qub (Ed rfl (Runs.bif (fun _=>Eb rfl) (fun hb=>?_)));rw [Bool.or_eq_false_iff,decide_eq_false_iff_not,decide_eq_false_iff_not] at hb;have e1:(ByteArray.mk #[32]).size=1:=rfl;have hds:=Qvk hx.2;have hu1:ZF x.Ni (ByteArray.mk #[32])=some (x.Ni++ByteArray.mk #[32]):=Qer (by omega);have hu2:ZF (x.Ni++ByteArray.mk #[32]) (YL x.At)=some (x.Ni++ByteArray.mk #[32]++YL x.At):=Qer (by rw [Eh];omega);have hF:Qie x=some (x.Ni++ByteArray.mk #[32]++YL x.At):=Ee (Ea hu1 (Ea (Qor hx.2) (Ea hu2 (Eb rfl))));have hR:Qjs x=some (x.Ni++ByteArray.mk #[32]++YL x.At):=Ee (Ea hu1 (Ea (Qvl hx.2) (Ea hu2 (Eb rfl))));obtain ⟨r,hr1,hr2,_⟩:=Qqc (t:=s) (by omega);refine Ea hF (Ea hr1 (Ea hr2 (Ea hR (Ed (by simp) (Ea (Qlq x.Ni) ?_)))));by_cases hn:ZM x.Ni=true
 ·rw [hn];refine Ea (b:=decide (-999999999<=x.At)&&decide (x.At<=999999999)) rfl (Runs.bif (fun _=>Eb rfl) (fun hw=>?_));have hw:-999999999<=x.At/\x.At<=999999999:=by simpa using hw
  obtain ⟨r',h1,_,h3⟩:=Qqc (t:=x.Ni++ByteArray.mk #[32]++YL x.At) (by rw [Eh,Eh];omega);have hsp:Yc 32 (QD (x.Ni++ByteArray.mk #[32]++YL x.At))=[QD x.Ni,Xw x.At]:=by
   rw [Qem,Qem,Qbh,List.append_assoc];show Yc 32 (QD x.Ni++32::Xw x.At)=_;rw [Qgb (Qpa hn).1,Qga fun hm=>by have:=Qmm hm;omega]
  have hr:=h3 x.Ni x.At hsp hn (Qfu (by decide) (by omega));refine Ea h1 (Eb ?_);rw [hr];simp
 ·have hn:ZM x.Ni=false:=by simpa using hn
  rw [hn];exact Ea (b:=default) rfl (Ec rfl (Eb rfl))
end Go.Gw
