/- Lock: texts of events and states. Condition: numbers of 64 bits. -/
import Derived.Test.YtbigilldfhjedaaGreatDoorGwLck25
import Derived.Test.YtbigilldfhjedaaGreatDoorGwTopA
import Derived.Test.YtbigilldfhjedaaGreatDoorGwOpens
import Derived.Test.YtbigilldfhjedaaGreatDoorGwLawLockTexts
set_option linter.unusedVariables false
set_option linter.unusedSimpArgs false
set_option linter.unusedSectionVars false
set_option maxRecDepth 4096
set_option linter.unusedVariables false
set_option linter.unusedSectionVars false
open Go.Gw.Runs renaming call→Ea,some→Eb,bif_f→Ec
namespace Go.Gw
open Go
attribute [local irreducible] loop
theorem QYk (o:Option Nj):(evR o).1=(ZB o).1/\(evR o).2=decide ((ZB o).2=0)/\((ZB o).2=0\/(ZB o).2=7):=by
 cases o with
 | none=>exact ⟨rfl,rfl,.inr rfl⟩
 | some e=>exact ⟨rfl,rfl,.inl rfl⟩
theorem QYn (o:Option Nf):(Qfa o).1=(JG o).1/\(Qfa o).2=decide ((JG o).2=0)/\((JG o).2=0\/(JG o).2=7):=by
 cases o with
 | none=>exact ⟨rfl,rfl,.inr rfl⟩
 | some e=>exact ⟨rfl,rfl,.inl rfl⟩
theorem QIc (p:Ng) (x:NB) (s:ByteArray) (_:V26 p) (hx:V34 x) (_:s.size<=maxLen):Qsg p x s=some true:=by
 obtain ⟨⟨_,hA,hB⟩,⟨_,⟨hT,_⟩,hC⟩⟩:=hx;refine Runs.eq ?_;unfold Qsg;refine Ea QJi (Ec rfl ?_);rcases QNj p with ⟨G,hS,_⟩ | G
 rotate_left
 ·exact Ea G (Ea (b:=default) rfl (Runs.bif_t rfl (Eb rfl)))
 refine Ea G ?_;rcases QNk x.State with ⟨H,b1,b2,J⟩ | H
 rotate_left
 ·exact Ea (b:=false) H (Runs.bif_t rfl (Eb rfl))
 refine Ea (b:=true) H (Runs.bif (fun _=>Eb rfl) (fun hb=>?_));have hs:s.size<=900:=by
  have:¬ (100:Int) < (s.size:Int):=of_decide_eq_false hb;omega
 have hSt:StateS x.State:=⟨by omega,by omega,fun t ht=>by have:=J t ht;omega⟩;have hTold:Told x.State:=⟨by omega,by omega,Qri hC,fun t ht=>⟨by have:=J t ht;omega,Qri (hT t ht).2,fun n hn=>Qri ((hT t ht).1.1 n hn)⟩⟩;have hfe:=QPh hA hB;have hfe':=QXw hA hB;have hfs:=QNm hTold;have hfs':=QNn hTold;obtain ⟨e1,e2,e3⟩:=QYk (YT s);obtain ⟨Y,s2,s3⟩:=QYn (Zr s);have hzS:StateS (JG (Zr s)).1:=by
  cases h:Zr s with
  | none=>exact ⟨(show (0:Nat) < 1000 by decide),(show (0:Nat) < 1000 by decide),fun t ht=>by cases ht⟩
  | some y=>exact QYo hs h
 refine Ea hfe (Ea (QKh hSt) (Ea hfs (Ea hfe' (Ea (b:=fmt x.State) (by rw [decide_eq_true rfl];exact hfs') (Ec (by rw [decide_eq_true rfl,decide_eq_true rfl];rfl) (Ea (Qzz hs) (Ea (QAa hs) (Ea (QXv hs) (Ea (QYe hs) ?_)))))))));have hev:(Nj.mk (evR (YT s)).1.Kind (evR (YT s)).1.A (evR (YT s)).1.B)=(ZB (YT s)).1:=by rw [e1]
 have hcond:(((((!((evR (YT s)).2 == (decide ((ZB (YT s)).2=0))))||((!(evR (YT s)).2)&&(!decide ((ZB (YT s)).2=7))))||(!(decide ((Nj.mk (ZB (YT s)).1.Kind (ZB (YT s)).1.A (ZB (YT s)).1.B)=(Nj.mk (evR (YT s)).1.Kind (evR (YT s)).1.A (evR (YT s)).1.B)))))||(!((Qfa (Zr s)).2 == (decide ((JG (Zr s)).2=0)))))||((!(Qfa (Zr s)).2)&&(!decide ((JG (Zr s)).2=7))))=false:=by
  rw [hev,e2,s2];show (((((!(decide ((ZB (YT s)).2=0) == decide ((ZB (YT s)).2=0)))||((!decide ((ZB (YT s)).2=0))&&(!decide ((ZB (YT s)).2=7))))||(!(decide ((ZB (YT s)).1=(ZB (YT s)).1))))||(!(decide ((JG (Zr s)).2=0) == decide ((JG (Zr s)).2=0))))||((!decide ((JG (Zr s)).2=0))&&(!decide ((JG (Zr s)).2=7))))=false;rw [decide_eq_true (p:=(ZB (YT s)).1=(ZB (YT s)).1) rfl];rcases e3 with h | h<;>rcases s3 with h' | h'<;>rw [h,h']<;>rfl
 have hsame:Qgw (JG (Zr s)).1 (Qfa (Zr s)).1=some true:=by
  rw [Y];exact (QFd hzS _).trans (by rw [decide_eq_true rfl])
 refine Ea (b:=true) (by rw [hcond];exact hsame) (Ec (by rw [hcond];rfl) (Ea (QYb hS) (Runs.bif (fun _=>Eb rfl) (fun U=>?_))));have hp:PlantOk p:=QXm (by simpa using U);refine Ea (QXu hS x.Event) (Runs.callR (R:=fun o=>o=.inr ()) ?_ ?_)
 ·refine Runs.bif (fun I=>?_) (fun _=>Eb rfl);have hback:=QLr hp (of_decide_eq_true I);have hsz:=Qru hA hB;refine Ea (Qzz (by omega)) ?_;rw [hback];refine Ec ?_ (Eb rfl);show ((!decide ((0:Int)=0))||(!decide (x.Event=x.Event)))=false;rw [decide_eq_true (p:=x.Event=x.Event) rfl];rfl
 rintro _ rfl;refine Runs.jr (Ea (QYd hS hp hSt) (Runs.bif (fun _=>Eb rfl) (fun V=>?_)));have hok:StateOk p x.State:=state_iff.1 (by simpa using V);obtain ⟨M,O⟩:=Q2e hp hok;refine Ea (QAa O) ?_;rw [M];refine Ea (b:=true) ?_ (Eb rfl);exact (QFd hSt _).trans (by rw [decide_eq_true rfl])
end Go.Gw
