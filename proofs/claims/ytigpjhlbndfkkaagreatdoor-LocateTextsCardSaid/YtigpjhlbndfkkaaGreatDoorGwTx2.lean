/- Laws of the walk. Condition: each theorem says its own. -/
import Derived.Test.YtigpjhlbndfkkaaGreatDoorGwPl
import Derived.Test.YtigpjhlbndfkkaaGreatDoorGwFnZ
import Derived.Test.YtigpjhlbndfkkaaGreatDoorGwLib21
import Derived.Lib.Bytealg
import Derived.Test.YtigpjhlbndfkkaaGreatDoorGwCj21
import Derived.Conc.LoneCalls
set_option linter.unusedVariables false
set_option linter.unusedSimpArgs false
set_option linter.unusedSectionVars false
open Go.Gw.Runs renaming some→Ea,call→Eb,callR→Ee,bif_t→Ef,bif_f→Eg,loop→Es,eq→EO,jl→EU,jr→EV
open Int renaming tdiv_eq_ediv_of_nonneg→Ec,tmod_eq_emod_of_nonneg→Ed,toNat_natCast→Ei,tdiv→Eo,tmod→EW
open List renaming replicate→Eh,take_of_length_le→Ek,getElem_mem→En,take_append_getElem→Ep,length_take→Eq_,mem_cons_of_mem→Et,length_cons→Eu,count_cons_self→Ev,map_append→Ey,map_cons→EA,count_cons_of_ne→EC,mem_of_mem_take→EG,drop_append_of_le_length→EH,eq_nil_of_length_eq_zero→EI,count_eq_zero→EK,append_assoc→EL,getElem_drop→EM,drop_eq_getElem_cons→EN,length_set→EQ,cons→ER,set_append_right→ES
open Nat renaming le_refl→El,div_div_eq_div_mul→Em,mod_lt→Er,pow_add→Ew,zero_le→Ex,add_comm→Ez,le_div_iff_mul_le→EB,pow_le_pow_right→ED,lt_or_ge→EP,le_trans→ET
open Bool renaming or_eq_true→EE,or_eq_false_iff→EF
open Option renaming bind→EJ
section
set_option maxRecDepth 4096
set_option linter.unusedVariables false
namespace Go.Gw
open Go
attribute [local irreducible] loop
theorem QFt (n:Int) (h:-9223372036854775807<=n/\n<=9223372036854775807):Qcv n=some ((n.natAbs:Nat):Int):=by
 unfold Qcv;rw [Xs (by omega)];split<;>(congr 1;omega)
theorem QHu (x:Int):(Eo x 10).natAbs=x.natAbs / 10/\(EW x 10).natAbs=x.natAbs % 10/\(0<=x->0<=Eo x 10)/\(x<=0->Eo x 10<=0):=by
 rcases Int.eq_nat_or_neg x with ⟨m,rfl | rfl⟩
 ·have h1:Eo (m:Int) 10=((m / 10:Nat):Int):=rfl;have h2:EW (m:Int) 10=((m % 10:Nat):Int):=rfl;rw [h1,h2];omega
 ·have h1:Eo (-(m:Int)) 10=-((m / 10:Nat):Int):=by rw [Int.neg_tdiv];rfl
  have h2:EW (-(m:Int)) 10=-((m % 10:Nat):Int):=by rw [Int.neg_tmod];rfl
  rw [h1,h2];omega
theorem Qpk {d:Nat} (h:d < 10):Qq (X3 ([IntKind.wrap .u8 (w64 (48+(d:Int)))]:List U8))=[48+(d:Int)]:=by
 rw [Xs (by omega),Go.IntWalk.u8_in _ (by omega)];refine Qgx (l:=[48+(d:Int)]) fun x hx=>?_;have hx:=List.mem_singleton.1 hx;subst hx;omega
theorem Jj {a b:ByteArray} (h:a.size+b.size<=1048576):Y6 a b=some (a++b):=by unfold Y6;rw [if_pos h]
theorem decT_zero:Y7 0=⟨#[48]⟩:=by
 refine JN ?_;rw [YC];have:nd 0=1:=by rw [nd];rfl
 unfold Xj Ye;rw [if_neg (by decide)];show XN (nd 0) 0=_;rw [this];rfl
theorem Qlo {n:Int} (h:-9223372036854775808<=n/\n<=9223372036854775807):Qct n=some (Y7 n):=by
  refine EO ?_;unfold Qct;by_cases h0:n=0
  · subst h0;exact Ef rfl (Ea decT_zero.symm)
  refine Eg (decide_eq_false h0) (Ee (R:=fun s=>Qq s=if n < 0 then [45] else []) ?_ ?_)
  · refine Runs.bif (fun hb=>Ea ?_) (fun hb=>Ea ?_)
    · rw [if_pos (of_decide_eq_true hb)];rfl
    · rw [if_neg (of_decide_eq_false hb)];rfl
  intro sg hsg;obtain ⟨N,hN⟩:∃ N,N=n.natAbs:=⟨_,rfl⟩;have hN1:1<=N:=by omega
  have hN2:N < 10 ^ 19:=by omega
  refine Ee (R:=fun s=>Qq s=Ye N) (Es (fun s=>∃ j:Nat,s.1.natAbs=N / 10 ^ j/\Qq s.2=XN j N/\(j=0\/10 ^ (j - 1)<=N)/\(j=0->s.1=n)/\s.1.natAbs<=9223372036854775808/\(s.1=-9223372036854775808->j=0)) (fun s=>s.1.natAbs) ⟨0,by simp [hN],rfl,.inl rfl,fun _=>rfl,by show n.natAbs<=_;omega,fun _=>rfl⟩ ?_) ?_
  · rintro ⟨x,s⟩ ⟨j,h1,h2,h3,h4,h5,h6⟩;dsimp only at h1 h2 h4 h5 h6;unfold Qkw;have hj:j<=19:=by
      rcases h3 with h3 | h3
      · omega
      · rcases EP 19 j with hlt | hge
        · have:=ED (show 0 < 10 by decide) (show 19<=j - 1 by omega);omega
        · exact hge
    by_cases hx:x=0
    · subst hx;refine Eg rfl (Ea ?_);have hlt:N < 10 ^ j:=by
        rcases EP N (10 ^ j) with h | h
        · exact h
        · have:1<=N / 10 ^ j:=(EB (Nat.pow_pos (by decide))).2 (by omega);simp at h1;omega
      have hj0:j≠0:=fun e=>by subst e;simp at hlt;omega
      show Qq s=Ye N;have:nd N=j:=Qav (by omega) hlt (.inr (h3.resolve_left hj0));unfold Ye;rw [this];exact h2
    · obtain ⟨t1,t2,t3,t4⟩:=QHu x;have hs:Qcv (EW x 10)=some (((x.natAbs % 10:Nat)):Int):=by rw [<-t2];exact QFt _ (by omega)
      have hsz:s.size=j:=by rw [<-Xx,h2,Qam]
      have hob:(X3 ([IntKind.wrap .u8 (w64 (48+((x.natAbs % 10:Nat):Int)))]:List U8)).size=1:=by rw [<-Xx,Qpk (Er _ (by decide))];rfl
      refine Ef (by simp [hx]) (Eb hs (Eb (Jj (by omega)) (Ea ⟨⟨j+1,?_,?_,.inr ?_,fun h=>absurd h (by omega),?_,fun h=>?_⟩,?_⟩)))
      · show (w64 (Eo x 10)).natAbs=_;rw [Xs (by omega),t1,h1,Em,Nat.pow_succ]
      · show Qq (_++s)=_;rw [JM,Qpk (Er _ (by decide)),h2,JP,h1];rfl
      · rw [Nat.add_sub_cancel];rcases EP N (10 ^ j) with h | h
        · rw [Nat.div_eq_of_lt h] at h1;omega
        · exact h
      · show (w64 (Eo x 10)).natAbs<=_;rw [Xs (by omega)];omega
      · exfalso;have h:w64 (Eo x 10)=_:=h;rw [Xs (by omega)] at h;omega
      · show (w64 (Eo x 10)).natAbs < x.natAbs;rw [Xs (by omega)];omega
  · intro s hs;have e1:sg.size<=1:=by rw [<-Xx,hsg];split<;>simp
    have e2:s.size<=19:=by rw [<-Xx,hs];unfold Ye;rw [Qam];exact Qdd (by decide) hN2
    refine Eb (Jj (by omega)) (Ea (JN ?_));rw [JM,hsg,hs,YC,hN];unfold Xj;split<;>rfl
end Go.Gw

end
section
set_option maxRecDepth 8192
set_option linter.unusedVariables false
namespace Go.Gw
open Go
attribute [local irreducible] loop
/-! ### How many digits -/
theorem Qzi:∀ k:Fin 256,(match idx (α:=Int) (bl (ByteArray.mk #[0,1,2,2,3,3,3,3,4,4,4,4,4,4,4,4,5,5,5,5,5,5,5,5,5,5,5,5,5,5,5,5,6,6,6,6,6,6,6,6,6,6,6,6,6,6,6,6,6,6,6,6,6,6,6,6,6,6,6,6,6,6,6,6,7,7,7,7,7,7,7,7,7,7,7,7,7,7,7,7,7,7,7,7,7,7,7,7,7,7,7,7,7,7,7,7,7,7,7,7,7,7,7,7,7,7,7,7,7,7,7,7,7,7,7,7,7,7,7,7,7,7,7,7,7,7,7,7,8,8,8,8,8,8,8,8,8,8,8,8,8,8,8,8,8,8,8,8,8,8,8,8,8,8,8,8,8,8,8,8,8,8,8,8,8,8,8,8,8,8,8,8,8,8,8,8,8,8,8,8,8,8,8,8,8,8,8,8,8,8,8,8,8,8,8,8,8,8,8,8,8,8,8,8,8,8,8,8,8,8,8,8,8,8,8,8,8,8,8,8,8,8,8,8,8,8,8,8,8,8,8,8,8,8,8,8,8,8,8,8,8,8,8,8,8,8,8,8,8,8,8,8,8,8,8,8])) ((k.val:Nat):Int) with
  | some v=>decide (k.val=0\/(1<=v/\v<=8/\2 ^ (v.toNat - 1)<=k.val/\k.val < 2 ^ v.toNat))
  | none=>false)=true:=by decide +kernel
theorem Qmx {z:Nat} (h1:1<=z) (h:z < 256):∃ v:Nat,idx (α:=Int) (bl (ByteArray.mk #[0,1,2,2,3,3,3,3,4,4,4,4,4,4,4,4,5,5,5,5,5,5,5,5,5,5,5,5,5,5,5,5,6,6,6,6,6,6,6,6,6,6,6,6,6,6,6,6,6,6,6,6,6,6,6,6,6,6,6,6,6,6,6,6,7,7,7,7,7,7,7,7,7,7,7,7,7,7,7,7,7,7,7,7,7,7,7,7,7,7,7,7,7,7,7,7,7,7,7,7,7,7,7,7,7,7,7,7,7,7,7,7,7,7,7,7,7,7,7,7,7,7,7,7,7,7,7,7,8,8,8,8,8,8,8,8,8,8,8,8,8,8,8,8,8,8,8,8,8,8,8,8,8,8,8,8,8,8,8,8,8,8,8,8,8,8,8,8,8,8,8,8,8,8,8,8,8,8,8,8,8,8,8,8,8,8,8,8,8,8,8,8,8,8,8,8,8,8,8,8,8,8,8,8,8,8,8,8,8,8,8,8,8,8,8,8,8,8,8,8,8,8,8,8,8,8,8,8,8,8,8,8,8,8,8,8,8,8,8,8,8,8,8,8,8,8,8,8,8,8,8,8,8,8,8,8])) (z:Int)=some (v:Int)/\1<=v/\v<=8/\2 ^ (v - 1)<=z/\z < 2 ^ v:=by
 have:=Qzi ⟨z,h⟩;dsimp only at this;cases hq:idx (α:=Int) (bl (ByteArray.mk #[0,1,2,2,3,3,3,3,4,4,4,4,4,4,4,4,5,5,5,5,5,5,5,5,5,5,5,5,5,5,5,5,6,6,6,6,6,6,6,6,6,6,6,6,6,6,6,6,6,6,6,6,6,6,6,6,6,6,6,6,6,6,6,6,7,7,7,7,7,7,7,7,7,7,7,7,7,7,7,7,7,7,7,7,7,7,7,7,7,7,7,7,7,7,7,7,7,7,7,7,7,7,7,7,7,7,7,7,7,7,7,7,7,7,7,7,7,7,7,7,7,7,7,7,7,7,7,7,8,8,8,8,8,8,8,8,8,8,8,8,8,8,8,8,8,8,8,8,8,8,8,8,8,8,8,8,8,8,8,8,8,8,8,8,8,8,8,8,8,8,8,8,8,8,8,8,8,8,8,8,8,8,8,8,8,8,8,8,8,8,8,8,8,8,8,8,8,8,8,8,8,8,8,8,8,8,8,8,8,8,8,8,8,8,8,8,8,8,8,8,8,8,8,8,8,8,8,8,8,8,8,8,8,8,8,8,8,8,8,8,8,8,8,8,8,8,8,8,8,8,8,8,8,8,8,8])) (z:Int) with
 | none=>rw [hq] at this;cases this
 | some v =>
  rw [hq] at this;have:=of_decide_eq_true this;rcases this with h0 | ⟨g1,g2,g3,g4⟩
  ·omega
  ·exact ⟨v.toNat,by congr 1;omega,by omega,by omega,g3,g4⟩
theorem Qpr {x c z v:Nat} (hz:z=x / 2 ^ c) (h1:1<=v) (h2:2 ^ (v - 1)<=z) (h3:z < 2 ^ v):2 ^ (c+v - 1)<=x/\x < 2 ^ (c+v):=by
 have hp:0 < 2 ^ c:=Nat.pow_pos (by decide);constructor
 ·have:=(EB hp).1 (hz▸h2);rw [<-Ew] at this;rwa [show c+v - 1=v - 1+c by omega]
 ·rw [hz] at h3;have:=(Nat.div_lt_iff_lt_mul hp).1 h3;rw [<-Ew] at this;rwa [Ez]
theorem Qix (k:Nat) (a:Nat) (h:k<=64):J5 .u64 (a:Int) (k:Int)=some ((a / 2 ^ k:Nat):Int):=by
 unfold J5;rw [if_pos ⟨by omega,by show (k:Int)<=((64:Nat):Int);omega⟩,Ei];rw [show (2:Int) ^ k=((2 ^ k:Nat):Int) by simp,Int.ofNat_fdiv]
theorem Qzg {x:Nat} (h1:1<=x) (h:x < 2 ^ 64):∃ L:Nat,Qbt (x:Int)=some (L:Int)/\1<=L/\L<=64/\2 ^ (L - 1)<=x/\x < 2 ^ L:=by
 have key:Runs (Qbt (x:Int)) fun q=>∃ L:Nat,q=(L:Int)/\1<=L/\L<=64/\2 ^ (L - 1)<=x/\x < 2 ^ L:=by
  unfold Qbt;refine Ee (R:=fun s=>∃ A B:Nat,s=((A:Int),(B:Int))/\A=x / 2 ^ B/\1<=A/\A < 2 ^ 32/\B<=32) (Runs.bif (fun hb=>?_) (fun hb=>?_)) ?_
  ·have:=of_decide_eq_true hb;exact Eb (Qix 32 x (by decide)) (Ea ⟨x / 2 ^ 32,32,rfl,rfl,by omega,by omega,El _⟩)
  ·have:=of_decide_eq_false hb;exact Ea ⟨x,0,rfl,by simp,by omega,by omega,by decide⟩
  rintro _ ⟨A,B,rfl,hA,hA1,hA2,hB⟩;refine Ee (R:=fun s=>∃ C D:Nat,s=((C:Int),(D:Int))/\C=x / 2 ^ D/\1<=C/\C < 2 ^ 16/\D<=48) (Runs.bif (fun hb=>?_) (fun hb=>?_)) ?_
  ·have:=of_decide_eq_true hb;refine Eb (Qix 16 A (by decide)) (Ea ⟨A / 2 ^ 16,B+16,?_,?_,by omega,by omega,by omega⟩)
   ·rw [Xs (by omega)];rfl
   ·rw [hA,Em,<-Ew]
  ·have:=of_decide_eq_false hb;exact Ea ⟨A,B,rfl,hA,hA1,by omega,by omega⟩
  rintro _ ⟨C,D,rfl,hC,hC1,hC2,hD⟩;refine Runs.bif (fun hb=>?_) (fun hb=>?_)
  ·have:=of_decide_eq_true hb;have hz:C / 2 ^ 8=x / 2 ^ (D+8):=by rw [hC,Em,<-Ew]
   obtain ⟨v,e,v1,v2,v3,v4⟩:=Qmx (z:=C / 2 ^ 8) (by omega) (by omega);obtain ⟨p1,p2⟩:=Qpr hz v1 v3 v4;refine Eb (Qix 8 C (by decide)) (Eb (b:=(v:Int)) ?_ (Ea ⟨D+8+v,?_,by omega,by omega,p1,p2⟩))
   ·rw [Go.IntWalk.u8_in _ (by omega)];exact e
   ·rw [Xs (x:=(v:Int)) (by omega),Xs (x:=(D:Int)+8) (by omega),Xs (by omega)];rfl
  ·have:=of_decide_eq_false hb;obtain ⟨v,e,v1,v2,v3,v4⟩:=Qmx (z:=C) (by omega) (by omega);obtain ⟨p1,p2⟩:=Qpr hC v1 v3 v4;refine Eb (b:=(v:Int)) ?_ (Ea ⟨D+v,?_,by omega,by omega,p1,p2⟩)
   ·rw [Go.IntWalk.u8_in _ (by omega)];exact e
   ·rw [Xs (x:=(v:Int)) (by omega),Xs (by omega)];rfl
 obtain ⟨q,hq,L,rfl,hL⟩:=key;exact ⟨L,hq,hL⟩
theorem QAs:∀ L:Fin 65,(match Qeh ((L.val:Nat):Int) with
  | some r=>decide (L.val=0\/(0<=r/\r < 20/\2 ^ L.val<=10 ^ (r.toNat+1)/\(r.toNat=0\/10 ^ (r.toNat - 1)<=2 ^ (L.val - 1))))
  | none=>false)=true:=by decide +kernel
theorem QHv:∀ r:Fin 20,idx ([1,10,100,1000,10000,100000,1000000,10000000,100000000,1000000000,10000000000,100000000000,1000000000000,10000000000000,100000000000000,1000000000000000,10000000000000000,100000000000000000,1000000000000000000,10000000000000000000]:List Int) ((r.val:Nat):Int)=some (((10 ^ r.val:Nat)):Int):=by decide +kernel
theorem QDi {d:Nat} (h1:1<=d) (h:d < 2 ^ 64):Qei (d:Int)=some ((nd d:Nat):Int):=by
 obtain ⟨L,hL,L1,L2,L3,L4⟩:=Qzg h1 h;have hr:=QAs ⟨L,by omega⟩;dsimp only at hr;cases hq:Qeh (L:Int) with
 | none=>rw [hq] at hr;cases hr
 | some r =>
  rw [hq] at hr;rcases of_decide_eq_true hr with h0 | ⟨r0,r1,r2,r3⟩
  ·omega
  obtain ⟨k,rfl⟩:∃ k:Nat,r=(k:Int):=⟨r.toNat,by omega⟩;rw [Ei] at r2 r3;have ht:=QHv ⟨k,by omega⟩;dsimp only at ht;refine EO ?_;unfold Qei;refine Eb hL (Eb hq (Eb ht ?_));by_cases hd:10 ^ k<=d
  ·have hn:nd d=k+1:=Qav (by omega) (by omega) (.inr hd);refine Eb (b:=(1:Int)) ?_ (Ea ?_)
   ·unfold Qeg;rw [decide_eq_true (by omega)];rfl
   ·rw [Xs (by omega),hn];rfl
  ·have hk:k≠0:=fun e=>by subst e;simp at hd;omega
   have hn:nd d=k:=Qav (by omega) (by omega) (.inr (ET (r3.resolve_left hk) L3));refine Eb (b:=(0:Int)) ?_ (Ea ?_)
   ·unfold Qeg;rw [decide_eq_false (by omega)];rfl
   ·rw [Xs (by omega),hn];simp
/-! ### Two digits at a time -/
theorem QHz:∀ z:Fin 100,idx (α:=Int) (bl (ByteArray.mk #[48,48,48,49,48,50,48,51,48,52,48,53,48,54,48,55,48,56,48,57,49,48,49,49,49,50,49,51,49,52,49,53,49,54,49,55,49,56,49,57,50,48,50,49,50,50,50,51,50,52,50,53,50,54,50,55,50,56,50,57,51,48,51,49,51,50,51,51,51,52,51,53,51,54,51,55,51,56,51,57,52,48,52,49,52,50,52,51,52,52,52,53,52,54,52,55,52,56,52,57,53,48,53,49,53,50,53,51,53,52,53,53,53,54,53,55,53,56,53,57,54,48,54,49,54,50,54,51,54,52,54,53,54,54,54,55,54,56,54,57,55,48,55,49,55,50,55,51,55,52,55,53,55,54,55,55,55,56,55,57,56,48,56,49,56,50,56,51,56,52,56,53,56,54,56,55,56,56,56,57,57,48,57,49,57,50,57,51,57,52,57,53,57,54,57,55,57,56,57,57])) (2 * ((z.val:Nat):Int)+1)=some (48+((z.val % 10:Nat):Int))/\idx (α:=Int) (bl (ByteArray.mk #[48,48,48,49,48,50,48,51,48,52,48,53,48,54,48,55,48,56,48,57,49,48,49,49,49,50,49,51,49,52,49,53,49,54,49,55,49,56,49,57,50,48,50,49,50,50,50,51,50,52,50,53,50,54,50,55,50,56,50,57,51,48,51,49,51,50,51,51,51,52,51,53,51,54,51,55,51,56,51,57,52,48,52,49,52,50,52,51,52,52,52,53,52,54,52,55,52,56,52,57,53,48,53,49,53,50,53,51,53,52,53,53,53,54,53,55,53,56,53,57,54,48,54,49,54,50,54,51,54,52,54,53,54,54,54,55,54,56,54,57,55,48,55,49,55,50,55,51,55,52,55,53,55,54,55,55,55,56,55,57,56,48,56,49,56,50,56,51,56,52,56,53,56,54,56,55,56,56,56,57,57,48,57,49,57,50,57,51,57,52,57,53,57,54,57,55,57,56,57,57])) (2 * ((z.val:Nat):Int))=some (48+((z.val / 10:Nat):Int)):=by decide +kernel
theorem Qay {α:Type} {F:Int->Int->Option α} {Q:α->Prop} {z i:Nat} {a:List Int} {e1 e0 p1 p0:Int} (hz:z < 100) (he1:e1=2 * (z:Int)+1) (he0:e0=2 * (z:Int)) (hp1:p1=((i+1:Nat):Int)) (hp0:p0=(i:Int)) (hl:i+1 < a.length)
  (h:Runs (F (48+((z % 10:Nat):Int)) (48+((z / 10:Nat):Int))) Q) :
  Runs (EJ (idx (α:=Int) (bl (ByteArray.mk #[48,48,48,49,48,50,48,51,48,52,48,53,48,54,48,55,48,56,48,57,49,48,49,49,49,50,49,51,49,52,49,53,49,54,49,55,49,56,49,57,50,48,50,49,50,50,50,51,50,52,50,53,50,54,50,55,50,56,50,57,51,48,51,49,51,50,51,51,51,52,51,53,51,54,51,55,51,56,51,57,52,48,52,49,52,50,52,51,52,52,52,53,52,54,52,55,52,56,52,57,53,48,53,49,53,50,53,51,53,52,53,53,53,54,53,55,53,56,53,57,54,48,54,49,54,50,54,51,54,52,54,53,54,54,54,55,54,56,54,57,55,48,55,49,55,50,55,51,55,52,55,53,55,54,55,55,55,56,55,57,56,48,56,49,56,50,56,51,56,52,56,53,56,54,56,55,56,56,56,57,57,48,57,49,57,50,57,51,57,52,57,53,57,54,57,55,57,56,57,57])) e1) fun el1=>EJ (idx (α:=Int) (bl (ByteArray.mk #[48,48,48,49,48,50,48,51,48,52,48,53,48,54,48,55,48,56,48,57,49,48,49,49,49,50,49,51,49,52,49,53,49,54,49,55,49,56,49,57,50,48,50,49,50,50,50,51,50,52,50,53,50,54,50,55,50,56,50,57,51,48,51,49,51,50,51,51,51,52,51,53,51,54,51,55,51,56,51,57,52,48,52,49,52,50,52,51,52,52,52,53,52,54,52,55,52,56,52,57,53,48,53,49,53,50,53,51,53,52,53,53,53,54,53,55,53,56,53,57,54,48,54,49,54,50,54,51,54,52,54,53,54,54,54,55,54,56,54,57,55,48,55,49,55,50,55,51,55,52,55,53,55,54,55,55,55,56,55,57,56,48,56,49,56,50,56,51,56,52,56,53,56,54,56,55,56,56,56,57,57,48,57,49,57,50,57,51,57,52,57,53,57,54,57,55,57,56,57,57])) e0) fun el0=>EJ (idx (α:=Int) a p1) fun _=>EJ (idx (α:=Int) (a.set p1.toNat el1) p0) fun _=>F el1 el0) Q:=by
 subst he1 he0 hp1 hp0;obtain ⟨t1,t2⟩:=QHz ⟨z,hz⟩;exact Eb t1 (Eb t2 (Eb (X0 hl) (Eb (X0 (by simp;omega)) h)))
theorem Qaz (i:Nat) (tail:List Int) (d0 d1:Int):((Eh (i+2) (0:Int)++tail).set (i+1) d1).set i d0=Eh i 0++(d0::d1::tail):=by
 rw [show Eh (i+2) (0:Int)=Eh i 0++[0,0] by rw [<-List.replicate_append_replicate];rfl,EL];rw [ES _ _ (by simp),ES _ _ (by simp)];simp
theorem Qal {j U u:Nat} (h:u=U / 10 ^ j):XN (j+2) U=(48+((u % 100 / 10:Nat):Int))::(48+((u % 100 % 10:Nat):Int))::XN j U/\u / 100=U / 10 ^ (j+2):=by
 have e:U / 10 ^ (j+1)=u / 10:=by rw [h,Em,<-Nat.pow_succ]
 refine ⟨?_,by rw [h,Em,Ew]⟩;rw [JP,JP,e,<-h];rw [show u % 100 / 10=u / 10 % 10 by omega,show u % 100 % 10=u % 10 by omega]
end Go.Gw

end
section
set_option maxRecDepth 8192
set_option linter.unusedVariables false
namespace Go.Gw
open Go
attribute [local irreducible] loop
theorem Qvc {U u j:Nat} (h:u=U / 10 ^ j):u / 100000000=U / 10 ^ (j+8):=by
 rw [h,Em,Ew]
theorem QFm (m:Nat) (tail:List Int) (x1 x2 x3 x4 x5 x6 x7 x8:Int):((((((((Eh (m+8) (0:Int)++tail).set (m+7) x1).set (m+6) x2).set (m+5) x3).set (m+4) x4).set (m+3) x5).set (m+2) x6).set (m+1) x7).set m x8=Eh m 0++(x8::x7::x6::x5::x4::x3::x2::x1::tail):=by
 rw [Qaz (m+6) tail x2 x1,Qaz (m+4) _ x4 x3,Qaz (m+2) _ x6 x5,Qaz m _ x8 x7]
theorem QFl (m:Nat) (tail:List Int) (x1 x2 x3 x4:Int):((((Eh (m+4) (0:Int)++tail).set (m+3) x1).set (m+2) x2).set (m+1) x3).set m x4=Eh m 0++(x4::x3::x2::x1::tail):=by
 rw [Qaz (m+2) tail x2 x1,Qaz m _ x4 x3]
theorem Zb {l:List Int} {i j:Nat} {x:Int} (h:j < l.length):j < (l.set i x).length:=by simpa using h
theorem Jy {m k:Nat} {l:List Int} (h:k < m):k < (Eh m (0:Int)++l).length:=by simp;omega
theorem Qxt {N U:Nat} (hN:N<=22) (hU:U < 2 ^ 64):Runs (loop Qhi (Eh N (0:Int),(U:Int),((Eh N (0:Int)).length:Int))) (fun s=>∃ i j:Nat,s=((Eh i (0:Int)++XN j U:List Int),((U / 10 ^ j:Nat):Int),(i:Int))/\i+j=N/\i < 8):=by
 refine Es (fun s=>∃ i j:Nat,s=((Eh i (0:Int)++XN j U:List Int),((U / 10 ^ j:Nat):Int),(i:Int))/\i+j=N) (fun s=>s.2.2.toNat) ⟨N,0,by rw [List.length_replicate,Nat.pow_zero,Nat.div_one];exact Prod.ext (List.append_nil _).symm rfl,by omega⟩ ?_;rintro _ ⟨i,j,rfl,hij⟩;have hu:U / 10 ^ j<=U:=Nat.div_le_self _ _;obtain ⟨u,hu0⟩:∃ u,u=U / 10 ^ j:=⟨_,rfl⟩;rw [<-hu0];rw [<-hu0] at hu;unfold Qhi;by_cases hi:8<=i
 ·obtain ⟨m,rfl⟩:∃ m,i=m+8:=⟨i - 8,by omega⟩;have hw:∀ k:Nat,k<=8->w64 (((m+8:Nat):Int) - (k:Int))=((m+8 - k:Nat):Int):=fun k hk=>by rw [Xs (by omega)];omega
  obtain ⟨a1,b1⟩:=Qal hu0;obtain ⟨a2,b2⟩:=Qal b1;obtain ⟨a3,b3⟩:=Qal b2;obtain ⟨a4,b4⟩:=Qal b3;refine Ef (decide_eq_true (by omega)) ?_;refine Qay (z:=u % 100) (i:=m+6) (Er _ (by decide)) ?_ ?_ (hw 1 (by decide)) (hw 2 (by decide)) (Jy (by omega)) ?_
  ·simp (disch:=omega) only [Ed,Ec,IntKind.wrap_u32];omega
  ·simp (disch:=omega) only [Ed,Ec,IntKind.wrap_u32];omega
  refine Qay (z:=u / 100 % 100) (i:=m+4) (Er _ (by decide)) ?_ ?_ (hw 3 (by decide)) (hw 4 (by decide)) (Zb (Zb (Jy (by omega)))) ?_
  ·simp (disch:=omega) only [Ed,Ec,IntKind.wrap_u32];omega
  ·simp (disch:=omega) only [Ed,Ec,IntKind.wrap_u32];omega
  refine Qay (z:=u / 100 / 100 % 100) (i:=m+2) (Er _ (by decide)) ?_ ?_ (hw 5 (by decide)) (hw 6 (by decide)) (Zb (Zb (Zb (Zb (Jy (by omega)))))) ?_
  ·simp (disch:=omega) only [Ed,Ec,IntKind.wrap_u32];omega
  ·simp (disch:=omega) only [Ed,Ec,IntKind.wrap_u32];omega
  refine Qay (z:=u / 100 / 100 / 100 % 100) (i:=m) (Er _ (by decide)) ?_ ?_ (hw 7 (by decide)) (hw 8 (by decide)) (Zb (Zb (Zb (Zb (Zb (Zb (Jy (by omega)))))))) ?_
  ·simp (disch:=omega) only [Ed,Ec,IntKind.wrap_u32];omega
  ·simp (disch:=omega) only [Ed,Ec,IntKind.wrap_u32];omega
  refine Ea ⟨⟨m,j+8,?_,by omega⟩,?_⟩
  ·have e1:=hw 1 (by decide);have e2:=hw 2 (by decide);have e3:=hw 3 (by decide);have e4:=hw 4 (by decide);have e5:=hw 5 (by decide);have e6:=hw 6 (by decide);have e7:=hw 7 (by decide);have e8:=hw 8 (by decide);refine Prod.ext ?_ (Prod.ext ?_ ?_)
   ·dsimp only;rw [show (((1:Nat):Int))=1 from rfl] at e1;rw [show (((2:Nat):Int))=2 from rfl] at e2;rw [show (((3:Nat):Int))=3 from rfl] at e3;rw [show (((4:Nat):Int))=4 from rfl] at e4;rw [show (((5:Nat):Int))=5 from rfl] at e5;rw [show (((6:Nat):Int))=6 from rfl] at e6;rw [show (((7:Nat):Int))=7 from rfl] at e7;rw [show (((8:Nat):Int))=8 from rfl] at e8;rw [e1,e2,e3,e4,e5,e6,e7,e8];simp only [Ei];exact (QFm m (XN j U) _ _ _ _ _ _ _ _).trans (by rw [show j+8=j+2+2+2+2 from rfl,a4,a3,a2,a1])
   ·show IntKind.wrap .u64 (Eo (u:Int) 100000000)=_;rw [<-Qvc hu0,show Eo (u:Int) 100000000=((u / 100000000:Nat):Int) from rfl,Go.IntWalk.u64_in _ (by omega)]
   ·show w64 (((m+8:Nat):Int) - 8)=(m:Int);rw [Xs (by omega)];omega
  ·show (w64 (((m+8:Nat):Int) - ((8:Nat):Int))).toNat < (((m+8:Nat):Int)).toNat;rw [hw 8 (by decide),Ei,Ei];omega
 ·refine Eg (decide_eq_false (by omega)) (Ea ⟨i,j,?_,hij,by omega⟩);rw [hu0];rfl
theorem Qsm {U N i j u:Nat} (h:U < 10 ^ N) (hij:i+j=N) (hu:u=U / 10 ^ j):u < 10 ^ i:=by
 rw [hu];refine Nat.div_lt_of_lt_mul ?_;rw [<-Ew,Ez j i,hij];exact h
theorem Qxq {N U:Nat} (hN:N<=22) (hU:U < 2 ^ 64) (h10:U < 10 ^ N):Qdb (Eh N (0:Int)) (U:Int)=some (XN N U:List Int):=by
  refine EO ?_;unfold Qdb;refine Ee (Qxt hN hU) ?_;rintro _ ⟨i,j,rfl,hij,hi⟩;obtain ⟨u,hu0⟩:∃ u,u=U / 10 ^ j:=⟨_,rfl⟩;rw [<-hu0];have hu:=Qsm h10 hij hu0;have hu7:u < 10 ^ 7:=Nat.lt_of_lt_of_le hu (ED (by decide) (by omega));refine Ee (R:=fun s=>∃ i j u:Nat,s=((Eh i (0:Int)++XN j U:List Int),(i:Int),(u:Int))/\i+j=N/\i < 4/\u=U / 10 ^ j) (Runs.bif (fun hb=>?_) (fun hb=>?_)) ?_
  · obtain ⟨m,rfl⟩:∃ m,i=m+4:=⟨i - 4,by have:=of_decide_eq_true hb;omega⟩;have hw:∀ k:Nat,k<=4->w64 (((m+4:Nat):Int) - (k:Int))=((m+4 - k:Nat):Int):=fun k hk=>by rw [Xs (by omega)];omega
    obtain ⟨a1,b1⟩:=Qal hu0;obtain ⟨a2,b2⟩:=Qal b1;refine Qay (z:=u % 100) (i:=m+2) (Er _ (by decide)) ?_ ?_ (hw 1 (by decide)) (hw 2 (by decide)) (Jy (by omega)) ?_
    · simp (disch:=omega) only [Ed,Ec,IntKind.wrap_u32];omega
    · simp (disch:=omega) only [Ed,Ec,IntKind.wrap_u32];omega
    refine Qay (z:=u / 100 % 100) (i:=m) (Er _ (by decide)) ?_ ?_ (hw 3 (by decide)) (hw 4 (by decide)) (Zb (Zb (Jy (by omega)))) ?_
    · simp (disch:=omega) only [Ed,Ec,IntKind.wrap_u32];omega
    · simp (disch:=omega) only [Ed,Ec,IntKind.wrap_u32];omega
    refine Ea ⟨m,j+4,u / 10000,?_,by omega,by omega,?_⟩
    · have e1:=hw 1 (by decide);have e2:=hw 2 (by decide);have e3:=hw 3 (by decide);have e4:=hw 4 (by decide);refine Prod.ext ?_ (Prod.ext ?_ ?_)
      · dsimp only;rw [show (((1:Nat):Int))=1 from rfl] at e1;rw [show (((2:Nat):Int))=2 from rfl] at e2;rw [show (((3:Nat):Int))=3 from rfl] at e3;rw [show (((4:Nat):Int))=4 from rfl] at e4;rw [e1,e2,e3,e4];simp only [Ei];exact (QFl m (XN j U) _ _ _ _).trans (by rw [show j+4=j+2+2 from rfl,a2,a1])
      · show w64 (((m+4:Nat):Int) - 4)=(m:Int);rw [Xs (by omega)];omega
      · show IntKind.wrap .u32 (Eo (IntKind.wrap .u32 (u:Int)) 10000)=((u / 10000:Nat):Int);simp (disch:=omega) only [Ed,Ec,IntKind.wrap_u32];omega
    · rw [show u / 10000=u / 100 / 100 by omega,b2]
  · refine Ea ⟨i,j,u,?_,hij,by have:=of_decide_eq_false hb;omega,hu0⟩;rw [Go.IntWalk.u32_in _ (by omega)];rfl
  clear hu hu0 hu7 hi hij u i j;rintro _ ⟨i,j,u,rfl,hij,hi,hu0⟩;have hu:=Qsm h10 hij hu0;refine Runs.bif (fun hb=>?_) (fun hb=>Runs.bif (fun hb'=>?_) (fun hb'=>?_))
  · obtain ⟨m,rfl⟩:∃ m,i=m+2:=⟨i - 2,by have:=of_decide_eq_true hb;omega⟩;have hm:m=0\/m=1:=by omega
    have hu3:u < 1000:=by rcases hm with rfl | rfl<;>omega
    have hw:∀ k:Nat,k<=2->w64 (((m+2:Nat):Int) - (k:Int))=((m+2 - k:Nat):Int):=fun k hk=>by rw [Xs (by omega)];omega
    obtain ⟨a1,b1⟩:=Qal hu0;refine Qay (z:=u % 100) (i:=m) (Er _ (by decide)) ?_ ?_ (hw 1 (by decide)) (hw 2 (by decide)) (Jy (by omega)) ?_
    · simp (disch:=omega) only [Ed,Ec,IntKind.wrap_u32];omega
    · simp (disch:=omega) only [Ed,Ec,IntKind.wrap_u32];omega
    have e1:=hw 1 (by decide);have e2:=hw 2 (by decide);rw [show (((1:Nat):Int))=1 from rfl] at e1;rw [show (((2:Nat):Int))=2 from rfl] at e2;rw [e1,e2];have hs:(((Eh (m+2) (0:Int)++XN j U).set (m+1) (48+((u % 100 % 10:Nat):Int))).set m (48+((u % 100 / 10:Nat):Int)))=Eh m 0++XN (j+2) U:=by rw [Qaz,a1]
    rcases hm with rfl | rfl
    · refine Eg rfl (Ea ?_);refine hs.trans ?_;rw [<-hij,Nat.zero_add,Ez];rfl
    · refine Ef rfl (Ee (R:=fun _=>True) ⟨_,X0 (k:=0) (Zb (Zb (Jy (by omega)))),trivial⟩ (fun _ _=>Ea ?_));have hv:IntKind.wrap .u8 (IntKind.wrap .u32 (48+IntKind.wrap .u32 (Eo (u:Int) 100)))=48+((u / 100:Nat):Int):=by
        simp (disch:=omega) only [Ec,IntKind.wrap_u32,IntKind.wrap_u8];omega
      rw [hv];refine (congrArg (fun l:List Int=>l.set 0 _) hs).trans ?_;rw [<-hij,show 1+2+j=j+2+1 by omega,JP (j+2) U,<-b1,Nat.mod_eq_of_lt (show u / 100 < 10 by omega)];rfl
  · obtain rfl:i=1:=by have:=of_decide_eq_false hb;have:=of_decide_eq_true hb';omega
    refine Ee (R:=fun _=>True) ⟨_,X0 (k:=0) (Jy (by omega)),trivial⟩ (fun _ _=>Ea ?_);have hu1:u < 10:=by simpa using hu
    have hv:IntKind.wrap .u8 (IntKind.wrap .u32 (48+(u:Int)))=48+(u:Int):=by
      simp only [IntKind.wrap_u32,IntKind.wrap_u8];omega
    rw [hv];show (48+(u:Int))::XN j U=XN N U;rw [<-hij,Ez 1 j,JP,<-hu0,Nat.mod_eq_of_lt hu1]
  · obtain rfl:i=0:=by have:=of_decide_eq_false hb';omega
    refine Ea ?_;show XN j U=XN N U;rw [<-hij,Nat.zero_add]
/-! ### The text -/
theorem QGi:∀ n:Fin 100,Qej ((n.val:Nat):Int)=some (X3 (XN (if n.val < 10 then 1 else 2) n.val)):=by decide +kernel
theorem Qvb (n:Nat):Y7 (n:Int)=X3 (Ye n):=by
 unfold Y7 Xj;rw [if_neg (by omega),Int.natAbs_natCast]
theorem QGh {n:Nat} (h:n < 100):Qej (n:Int)=some (Y7 (n:Int)):=by
 have h1:=QGi ⟨n,h⟩;have h2:nd n=if n < 10 then 1 else 2:=by
  by_cases h1:n < 10
  ·rw [if_pos h1,Qav (k:=1) (by decide) (by omega) (.inl rfl)]
  ·rw [if_neg h1,Qav (k:=2) (by decide) (by omega) (.inr (by omega))]
 rw [Qvb,Ye,h2];exact h1
theorem Qtu {n:Int} (h:-9223372036854775808<=n/\n<=9223372036854775807):JV n=((n.natAbs:Nat):Int):=by
 unfold JV;simp only [IntKind.wrap_u64];by_cases h0:n < 0
 ·rw [decide_eq_true h0,cond_true];omega
 ·rw [decide_eq_false h0,cond_false];omega
theorem Qhk {n:Int} (h:-9223372036854775808<=n/\n<=9223372036854775807):ZL n=some (Y7 n):=by
  have key:Qed n 10=some (Y7 n):=by
    unfold Qed;rw [decide_eq_true rfl,cond_true];by_cases h1:0<=n/\n < 100
    · rw [decide_eq_true h1.1,decide_eq_true h1.2];obtain ⟨m,rfl⟩:∃ m:Nat,n=(m:Int):=⟨n.toNat,by omega⟩;exact QGh (by omega)
    · have hc : (decide (0 <= n) && decide (n < 100)) = false := by
        rw [Bool.and_eq_false_iff,decide_eq_false_iff_not,decide_eq_false_iff_not];omega
      rw [hc,cond_false,Qtu h];have hn1:1<=nd n.natAbs:=(Qau _).1;have hn2:nd n.natAbs<=19:=Qdd (by decide) (by omega);rw [QDi (by omega) (by omega),Option.bind_some];rw [decide_eq_true (show (1:Int)<=((nd n.natAbs:Nat):Int) by omega),decide_eq_true (show ((nd n.natAbs:Nat):Int)<=22 by omega)];show (EJ (Qdb (Eh ((nd n.natAbs:Nat):Int).toNat (0:Int)) _) _)=_;rw [Ei,Qxq (by omega) (by omega) (Qau _).2.1];show some (X3 (bif decide (n < 0) then ((45:Int)::XN (nd n.natAbs) n.natAbs:List Int) else XN (nd n.natAbs) n.natAbs))=_;unfold Y7 Xj Ye;by_cases h0:n < 0
      · rw [decide_eq_true h0,if_pos h0];rfl
      · rw [decide_eq_false h0,if_neg h0];rfl
  unfold ZL Qhh;rw [key];rfl
end Go.Gw

end
section
set_option maxRecDepth 4096
set_option linter.unusedVariables false
namespace Go.Gw
open Go
attribute [local irreducible] loop
def XB (c:Int):List Int->List (List Int)
 | []=>[[]]
 | x::l=>if x=c then []::XB c l else
  match XB c l with
  | h::t=>(x::h)::t
  | []=>[[x]]
theorem Qiz (c:Int):∀ l:List Int,∃ h t,XB c l=h::t
 | []=>⟨[],[],rfl⟩
 | x::l=>by
  obtain ⟨h,t,e⟩:=Qiz c l;unfold XB;by_cases hx:x=c
  ·rw [if_pos hx];exact ⟨_,_,rfl⟩
  ·rw [if_neg hx,e];exact ⟨_,_,rfl⟩
theorem JB {c:Int}:∀ {a:List Int},c∉a->XB c a=[a]
 | [],_=>rfl
 | x::a,h=>by
  rw [XB,if_neg (fun e=>h (by simp [e])),JB fun q=>h (Et _ q)]
theorem J6 {c:Int}:∀ {a b:List Int},c∉a->XB c (a++c::b)=a::XB c b
 | [],b,_=>by rw [List.nil_append,XB,if_pos rfl]
 | x::a,b,h=>by
  rw [List.cons_append,XB,if_neg (fun e=>h (by simp [e])),J6 fun q=>h (Et _ q)]
theorem Qrm (c:Int):∀ l:List Int,(XB c l).length=l.count c+1
 | []=>rfl
 | x::l=>by
  have ih:=Qrm c l;obtain ⟨h,t,e⟩:=Qiz c l;unfold XB;by_cases hx:x=c
  ·rw [if_pos hx,Eu,ih,hx,Ev]
  ·rw [if_neg hx,EC hx,<-ih,e];rfl
/-! ### Parts of a text -/
theorem Ji {s:ByteArray} {k:Nat} (h:k < (Qq s).length):idx (α:=Int) (bl s) (k:Int)=some (Qq s)[k]:=X0 (xs:=Qq s) h
theorem Qup (s:ByteArray) (a b:Nat):Qq (s.extract a b)=((Qq s).take b).drop a:=by
 show List.map _ (s.extract a b).data.toList=List.drop a (List.take b (List.map _ s.data.toList));rw [<-List.map_take,<-List.map_drop];congr 1;rw [ByteArray.data_extract,Array.toList_extract];simp [List.extract,List.drop_take]
theorem J8 {s:ByteArray} {a b:Nat} (h1:a<=b) (h2:b<=s.size):∃ t,YX s (a:Int) (b:Int)=some t/\Qq t=((Qq s).take b).drop a:=by
 refine ⟨s.extract a b,?_,Qup s a b⟩;unfold YX;rw [if_pos ⟨by omega,by omega,by omega⟩,Ei,Ei]
theorem Qll {s:ByteArray} {c:Int} (hs:s.size<=100000):Runs (Qcs s c) fun r=>r.map Qq=XB c (Qq s):=by
  have hlen:=Xx s;unfold Qcs;refine Ee (R:=fun x=>∃ f:Nat,x.2=(f:Int)/\f<=s.size/\c∉(Qq s).drop f/\XB c (Qq s)=x.1.map Qq++XB c ((Qq s).drop f)/\x.1.length<=s.size) (Es (fun x=>∃ f i:Nat,x.2=((f:Int),(i:Int))/\f<=i/\i<=s.size/\c∉((Qq s).take i).drop f/\XB c (Qq s)=x.1.map Qq++XB c ((Qq s).drop f)/\x.1.length<=i) (fun x=>s.size - x.2.2.toNat) ⟨0,0,rfl,El _,Ex _,by simp,by simp,by simp⟩ ?_) ?_
  · rintro ⟨out,_⟩ ⟨f,i,rfl,h1,h2,h3,h4,h5⟩;unfold Qku;dsimp only at h4 h5;have hm:s.size - (w64 ((i:Int)+1)).toNat < s.size - ((i:Nat):Int).toNat↔i < s.size:=by rw [XZ i (by omega)];simp;omega
    by_cases hi:i < s.size
    · have hg:i < (Qq s).length:=by omega
      have ht:(Qq s).take (i+1)=(Qq s).take i++[(Qq s)[i]]:=(Ep hg).symm;refine Ef (Y1 hi) (Eb (Ji hg) (Runs.bif (fun hb=>?_) (fun hb=>?_)))
      · have hc:=of_decide_eq_true hb;obtain ⟨t,ht1,ht2⟩:=J8 (s:=s) h1 (by omega);refine Eb ht1 (Eb (YM (by simp;omega)) (Ea ⟨⟨i+1,i+1,?_,El _,hi,?_,?_,?_⟩,hm.2 hi⟩))
        · rw [XZ i (by omega)]
        · rw [List.drop_of_length_le (by rw [Eq_];omega)];simp
        · have e : (Qq s).drop f = ((Qq s).take i).drop f ++ c :: (Qq s).drop (i + 1) := by
            rw [<-hc,<-EN hg,<-EH (by simp;omega),List.take_append_drop]
          rw [h4,e,J6 h3];show _=(out++[t]).map Qq++_;rw [Ey,EA,ht2,EL];rfl
        · show (out++[t]).length<=_;simp;omega
      · have hc:=of_decide_eq_false hb;refine Ea ⟨⟨f,i+1,?_,by omega,hi,?_,h4,by show out.length<=_;omega⟩,hm.2 hi⟩
        · rw [XZ i (by omega)]
        · rw [ht,EH (by simp;omega)];intro hq;rcases List.mem_append.1 hq with hq | hq
          · exact h3 hq
          · simp at hq;exact hc hq.symm
    · obtain rfl:i=s.size:=by omega
      refine Eg (Y2 _) (Ea ⟨f,rfl,h1,?_,h4,h5⟩);rwa [Ek (by omega)] at h3
  · rintro ⟨out,_⟩ ⟨f,rfl,h1,h2,h3,h4⟩;dsimp only at h3 h4;obtain ⟨t,ht1,ht2⟩:=J8 (s:=s) h1 (El _);refine Eb ht1 (Eb (YM (by simp;omega)) (Ea ?_));rw [h3,JB h2,Ey,EA,ht2,Ek (by omega)];rfl
/-! ### The library -/
theorem Qce {x:UInt8} {c:Nat} (h:c < 256):((x.toNat:Nat):Int)=(c:Int)↔x=c.toUInt8:=by
 constructor
 ·intro e;exact UInt8.toNat.inj (by rw [show c.toUInt8.toNat=c % 256 from rfl];omega)
 ·intro e;rw [e,show c.toUInt8.toNat=c % 256 from rfl];omega
theorem Quv {s:ByteArray} {c:Nat} (h:c < 256):Qaj s (c:Int)=(((Qq s).count (c:Int):Nat):Int):=by
 unfold Qaj;rw [Ei,Lib.foldl_data,Lib.count_foldl];unfold Lib.countByte Qq;have key:∀ l:List UInt8,(l.map fun b:UInt8=>((b.toNat:Nat):Int)).count (c:Int)=l.count c.toUInt8:=by
  intro l
  induction l with
  | nil=>rfl
  | cons x l ih =>
   rw [EA];by_cases hx:x=c.toUInt8
   ·rw [(Qce h).2 hx,Ev,ih,hx,Ev]
   ·rw [EC (fun e=>hx ((Qce h).1 e)),EC hx,ih]
 rw [key];omega
theorem Qmj (u:UInt8):∀ l:List UInt8,(u∉l/\Lib.indexByte l u=-1)\/∃ a b,l=a++u::b/\u∉a/\Lib.indexByte l u=(a.length:Int)
 | []=>.inl ⟨by simp,rfl⟩
 | x::l=>by
  by_cases hx:x=u
  ·exact .inr ⟨[],l,by rw [hx];rfl,by simp,by simp [Lib.indexByte,hx]⟩
  ·rcases Qmj u l with ⟨h1,h2⟩ | ⟨a,b,h1,h2,h3⟩
   ·refine .inl ⟨fun h=>?_,by simp [Lib.indexByte,hx,h2]⟩;rcases List.mem_cons.1 h with h | h
    ·exact hx h.symm
    ·exact h1 h
   ·refine .inr ⟨x::a,b,by rw [h1];rfl,fun h=>?_,?_⟩
    ·rcases List.mem_cons.1 h with h | h
     ·exact hx h.symm
     ·exact h2 h
    ·have hn:¬ ((a.length:Int)=-1):=by omega
     simp [Lib.indexByte,hx,h3,hn]
theorem Qhl {s:ByteArray} {c:Nat} (h:c < 256):((c:Int)∉Qq s/\Zj s (c:Int)=-1)\/∃ a b,Qq s=a++(c:Int)::b/\(c:Int)∉a/\Zj s (c:Int)=(a.length:Int):=by
 have e:Zj s (c:Int)=Lib.indexByte s.data.toList c.toUInt8:=by
  rw [<-Lib.firstIdx_eq];rfl
 have hm:∀ l:List UInt8,c.toUInt8∉l->(c:Int)∉l.map fun b:UInt8=>((b.toNat:Nat):Int):=fun l hl hq=>by
  obtain ⟨x,hx,hx2⟩:=List.mem_map.1 hq;rw [(Qce h).1 hx2] at hx;exact hl hx
 rw [e];rcases Qmj c.toUInt8 s.data.toList with ⟨h1,h2⟩ | ⟨a,b,h1,h2,h3⟩
 ·exact .inl ⟨hm _ h1,h2⟩
 ·refine .inr ⟨a.map fun b:UInt8=>((b.toNat:Nat):Int),b.map fun b:UInt8=>((b.toNat:Nat):Int),?_,hm _ h2,by rw [h3,List.length_map]⟩;unfold Qq;rw [h1,Ey,EA,(Qce h).2 rfl]
def Zx (c:Nat):ByteArray:=ByteArray.mk #[c.toUInt8]
theorem Qmk {s:ByteArray} {c:Nat} (h:c < 256):Qdk s (Zx c)=some (Zj s (c:Int)):=by
  have hz:(Zx c).size=1:=rfl;have hb:Qq (Zx c)=[(c:Int)]:=by
    show [((c.toUInt8.toNat:Nat):Int)]=_;rw [(Qce h).2 rfl]
  have key:Qar s (Zx c)=some (Zj s (c:Int)):=by
    refine EO ?_;unfold Qar;rw [hz];refine Runs.bif (fun hq=>?_) (fun hq=>Ef rfl ?_)
    · have hs:Zx c=s:=by simpa using hq
      refine Ea ?_;rcases Qhl (s:=s) h with ⟨h1,_⟩ | ⟨a,b,h1,h2,h3⟩
      · rw [<-hs,hb] at h1;simp at h1
      · rw [h3];rw [<-hs,hb] at h1;cases a with
        | nil=>rfl
        | cons x a=>simp at h1
    · have hi : idx (α := Int) (bl (Zx c)) 0 = some (c : Int) := by
        have:=Ji (s:=Zx c) (k:=0) (by rw [hb];exact Nat.one_pos);rw [show ((0:Nat):Int)=0 from rfl] at this;rw [this];simp [hb]
      exact Eb hi (Eb (b:=Zj s (c:Int)) rfl (Ea rfl))
  unfold Qdk;rw [key];rfl
theorem take_set {α:Type} (l:List α) (j:Nat) (x:α) (h:j < l.length):(l.set j x).take (j+1)=l.take j++[x]:=by
 rw [<-Ep (by rw [EQ];exact h),List.take_set_of_le (El _),List.getElem_set_self]
theorem QGl {s:ByteArray} {c:Nat} (h:c < 256) (hs:s.size<=100000):Runs (Qfl s (Zx c)) fun r=>r.map Qq=XB (c:Int) (Qq s):=by
  have hz:(Zx c).size=1:=rfl;have hlen:=Xx s;obtain ⟨k,hk⟩:∃ k,k=(Qq s).count (c:Int):=⟨_,rfl⟩;have hk1:k<=s.size:=by rw [hk,<-hlen];exact List.count_le_length
  unfold Qfl;refine Runs.bind (Runs.mono (Q:=fun r=>r.map Qq=XB (c:Int) (Qq s)) ?_ fun r hr=>Ea hr);unfold Qjd;refine Eg rfl (Eg (decide_eq_false fun e=>?_) (Ee (R:=fun x=>x=((k+1:Nat):Int)) (Ef rfl (Eb (b:=((k:Nat):Int)) ?_ (Ea ?_))) ?_))
  · have:=congrArg ByteArray.size e;rw [hz] at this;cases this
  · refine EO ?_;unfold Qjc;rw [hz];have hi:idx (α:=Int) (bl (Zx c)) 0=some (c:Int):=by
      have hb:Qq (Zx c)=[(c:Int)]:=by
        show [((c.toUInt8.toNat:Nat):Int)]=_;rw [(Qce h).2 rfl]
      have:=Ji (s:=Zx c) (k:=0) (by rw [hb];exact Nat.one_pos);rw [show ((0:Nat):Int)=0 from rfl] at this;rw [this];simp [hb]
    exact Eg rfl (Ef rfl (Eb hi (Ea (by rw [Quv h,hk]))))
  · exact XZ k (by omega)
  rintro _ rfl;have hif:(if w64 ((s.size:Int)+1) < ((k+1:Nat):Int) then w64 ((s.size:Int)+1) else ((k+1:Nat):Int))=((k+1:Nat):Int):=by
    rw [XZ s.size (by omega),if_neg (by omega)]
  rw [hif];have hmk:mk (((k+1:Nat)):Int) (ByteArray.empty:ByteArray)=some (Eh (k+1) ByteArray.empty):=by
    unfold mk;rw [if_pos (by omega),Ei]
  refine Eb hmk (Ee (R:=fun x=>x.2.1.length=k+1/\x.2.2=(k:Int)/\(Qq x.1).count (c:Int)=0/\(x.2.1.take k).map Qq++XB (c:Int) (Qq x.1)=XB (c:Int) (Qq s)) (Es (fun x=>∃ j:Nat,x.2.2=(j:Int)/\j<=k/\x.2.1.length=k+1/\x.1.size<=s.size/\(Qq x.1).count (c:Int)=k - j/\(x.2.1.take j).map Qq++XB (c:Int) (Qq x.1)=XB (c:Int) (Qq s)) (fun x=>k - x.2.2.toNat) ⟨0,rfl,Ex _,by simp,El _,by rw [hk];rfl,by simp⟩ ?_) ?_)
  · rintro ⟨r,a,_⟩ ⟨j,rfl,h1,h2,h3,h4,h5⟩;dsimp only at h2 h3 h4 h5;unfold Qru;rw [hif];have hw:w64 (((k+1:Nat):Int) - 1)=(k:Int):=by rw [Xs (by omega)];omega
    rw [hw];by_cases hj:j < k
    · refine Ef (Y1 hj) (Eb (Qmk h) ?_);rcases Qhl (s:=r) h with ⟨g1,_⟩ | ⟨x,y,g1,g2,g3⟩
      · exfalso;rw [EK.2 g1] at h4;omega
      rw [g3];have hrl:x.length+y.length+1=r.size:=by rw [<-Xx,g1];simp;omega
      obtain ⟨p,p1,p2⟩:=J8 (s:=r) (a:=0) (b:=x.length) (Ex _) (by omega);obtain ⟨q,q1,q2⟩:=J8 (s:=r) (a:=x.length+1) (b:=r.size) (by omega) (El _);have e1:w64 ((x.length:Int)+0)=(x.length:Int):=by rw [Xs (by omega)];omega
      have e2:w64 ((x.length:Int)+((Zx c).size:Int))=((x.length+1:Nat):Int):=by rw [hz];exact XZ x.length (by omega)
      refine Eg (decide_eq_false (by omega)) ?_;rw [e1,e2];have hq:Qq q=y:=by
        rw [q2,g1,Ek (by simp;omega)];rw [show x.length+1=(x++[(c:Int)]).length by simp,show x++(c:Int)::y=(x++[(c:Int)])++y by simp];exact List.drop_left
      have hp:Qq p=x:=by rw [p2,g1];simp
      refine Eb p1 (Eb (X0 (by omega)) (Eb q1 (Ea ⟨⟨j+1,XZ j (by omega),by omega,?_,?_,?_,?_⟩,?_⟩)))
      · show (a.set _ p).length=_;rw [EQ];exact h2
      · show q.size<=_;have:=Xx q;rw [hq] at this;omega
      · show (Qq q).count _=_;rw [g1,List.count_append,Ev,EK.2 g2] at h4;rw [hq];omega
      · show ((a.set ((j:Nat):Int).toNat p).take (j+1)).map Qq++XB (c:Int) (Qq q)=_;rw [Ei,take_set _ _ _ (by omega),Ey,EA,EL,hp,hq];rw [<-h5,g1,J6 g2];rfl
      · show k - (w64 ((j:Int)+1)).toNat < k - ((j:Nat):Int).toNat;rw [XZ j (by omega)];simp;omega
    · obtain rfl:j=k:=by omega
      refine Eg (Y2 _) (Ea ⟨h2,rfl,by rw [h4];omega,h5⟩)
  · rintro ⟨r,a,_⟩ ⟨h1,rfl,h2,h3⟩;dsimp only at h1 h2 h3;have hc:cut (a.set ((k:Nat):Int).toNat r) 0 (w64 ((k:Int)+1))=some (a.take k++[r]):=by
      rw [XZ k (by omega),Ei];unfold cut;rw [if_pos (by rw [EQ];omega),Ei,take_set _ _ _ (by omega)];rfl
    refine Eb (X0 (by omega)) (Eb hc (Ea ?_));rw [Ey,<-h3,JB (EK.1 h2)];rfl
end Go.Gw

end
section
set_option maxRecDepth 4096
set_option linter.unusedVariables false
namespace Go.Gw
open Go
attribute [local irreducible] loop
def Zm (n:Int):Nat:=if n < 0 then 1 else 0
theorem Qhb (n:Int):(Xj n).length=nd n.natAbs+Zm n:=by
 unfold Xj Ye Zm;split
 ·rw [Eu,Qam]
 ·rw [Qam];rfl
theorem Qdy {n c:Int} {t:List Int} (h:c::t=Xj n):(c=45/\n < 0/\t=Ye n.natAbs)\/(c≠45/\0<=n/\c::t=Ye n.natAbs/\48<=c/\c<=57):=by
 unfold Xj at h;split at h
 ·obtain ⟨h1,h2⟩:=ER.inj h;exact .inl ⟨h1,by assumption,h2⟩
 ·obtain ⟨x,l,hx,g1,g2,_⟩:=JO n.natAbs;have h':=h;rw [hx] at h;have:=(ER.inj h).1;exact .inr ⟨by omega,by omega,h',by omega,by omega⟩
def Qtp (l:List Int) (d:Nat) (r:Int×Bool):Prop :=
 (∃ n,r=(n,true)/\l=Xj n/\l.length<=d+Zm n)\/(r=(0,false)/\∀ n,l=Xj n->d+Zm n < l.length)
theorem Qls {D:List Int} {k:Nat} (hk:k < D.length):val (D.take (k+1))=val (D.take k) * 10+(D[k] - 48):=by
 rw [<-Ep hk,Qfv]
theorem Qdn {D:List Int} (hD:∀ y∈D,48<=y/\y<=57) (h:D.length<=18):0<=val D/\val D < 1000000000000000000:=by
 obtain ⟨h1,h2⟩:=Qfu _ D rfl hD;have:=ED (show 0 < 10 by decide) h;omega
theorem QDj {s:ByteArray} {d:Nat} (hd:d<=18) (hs:s.size<=100000):Runs (Qdv s (d:Int)) (Qtp (Qq s) d):=by
  have hlen:=Xx s;unfold Qdv;cases hl:Qq s with
  | nil =>
    have h0:s.size=0:=by rw [<-hlen,hl];rfl
    rw [h0];refine Eb (b:=(0:Int)) rfl (Ee (R:=fun x=>x=0) (Eg rfl (Ea rfl)) ?_);rintro _ rfl;refine Eb (b:=(0:Int)) rfl (Ef rfl (Ea (.inr ⟨rfl,fun n hn=>?_⟩)));obtain ⟨x,l,hx,_⟩:=JO n.natAbs;unfold Xj at hn;split at hn
    · cases hn
    · rw [hx] at hn;cases hn
  | cons c t =>
    have h1:s.size=t.length+1:=by rw [<-hlen,hl];rfl
    have hi0:idx (α:=Int) (bl s) 0=some c:=by
      have:=Ji (s:=s) (k:=0) (by omega);rw [show ((0:Nat):Int)=0 from rfl] at this;rw [this];simp [hl]
    have hg0:decide (0 < (s.size:Int))=true:=decide_eq_true (by omega);refine Ee (R:=fun x=>x=c) (Ef hg0 ⟨_,hi0,rfl⟩) ?_;intro x hx;rw [hx];clear hx x;obtain ⟨at_,D,hat,hD,hDl,hcase⟩:∃ (at_:Nat) (D:List Int),(at_=if c=45 then 1 else 0)/\(Qq s).drop at_=D/\D.length+at_=s.size/\((at_=1/\c=45/\D=t)\/(at_=0/\c≠45/\D=c::t)):=by
      by_cases hc:c=45
      · exact ⟨1,t,by rw [if_pos hc],by rw [hl];rfl,by omega,.inl ⟨rfl,hc,rfl⟩⟩
      · exact ⟨0,c::t,by rw [if_neg hc],by rw [hl];rfl,by simp;omega,.inr ⟨rfl,hc,rfl⟩⟩
    refine Ee (R:=fun x=>x=(at_:Int)) ?_ ?_
    · rw [hg0,Bool.true_and];refine Runs.bif (fun hb=>Ea ?_) (fun hb=>Ea ?_)
      · rw [hat,if_pos (of_decide_eq_true hb)];rfl
      · rw [hat,if_neg (of_decide_eq_false hb)];rfl
    rintro _ rfl;have hat1:at_<=1:=by rw [hat];split<;>omega
    have hw:w64 ((s.size:Int) - (at_:Int))=(D.length:Int):=by rw [Xs (by omega)];omega
    rw [hw]
    -- for each n whose text this is
    have htext:∀ n,c::t=Xj n->Zm n=at_/\D=Ye n.natAbs:=fun n hn=>by
      rcases Qdy hn with ⟨e1,e2,e3⟩ | ⟨e1,e2,e3,_⟩
      · rcases hcase with ⟨q1,q2,q3⟩ | ⟨q1,q2,q3⟩
        · exact ⟨by unfold Zm;rw [if_pos e2,q1],by rw [q3,e3]⟩
        · exact absurd e1 q2
      · rcases hcase with ⟨q1,q2,q3⟩ | ⟨q1,q2,q3⟩
        · exact absurd q2 e1
        · exact ⟨by unfold Zm;rw [if_neg (by omega),q1],by rw [q3,e3]⟩
    by_cases hA:(decide ((s.size:Int)=(at_:Int))||decide ((d:Int) < (D.length:Int)))=true
    · refine Eb (b:=(0:Int)) (by rw [hA];rfl) (Ef (by rw [hA];rfl) (Ea (.inr ⟨rfl,fun n hn=>?_⟩)));obtain ⟨g1,g2⟩:=htext n hn;obtain ⟨x,l,hx,_⟩:=JO n.natAbs;rw [hx] at g2;have hpos:0 < D.length:=by rw [g2];simp
      rw [EE,decide_eq_true_eq,decide_eq_true_eq] at hA;rw [Eu,g1];rcases hA with hA | hA<;>omega
    · have hA:(decide ((s.size:Int)=(at_:Int))||decide ((d:Int) < (D.length:Int)))=false:=by simpa using hA
      have hA':=hA;rw [EF,decide_eq_false_iff_not,decide_eq_false_iff_not] at hA';have hpos:0 < D.length:=by omega
      obtain ⟨y,D',hy⟩:∃ y D',D=y::D':=by
        cases D with
        | nil=>simp at hpos
        | cons y D'=>exact ⟨y,D',rfl⟩
      have hiat:idx (α:=Int) (bl s) (at_:Int)=some y:=by
        rw [Ji (by omega)];have:(Qq s).drop at_=(Qq s)[at_]'(by omega)::(Qq s).drop (at_+1) := EN (by omega);have this2:=hy.symm.trans (hD.symm.trans this);rw [(ER.inj this2).1]
      refine Eb (b:=y) (by rw [hA];exact hiat) ?_;rw [hA,Bool.false_or];by_cases hB:(decide (y=48)&&decide (1 < (s.size:Int)))=true
      · refine Ef hB (Ea (.inr ⟨rfl,fun n hn=>?_⟩));exfalso;rw [Bool.and_eq_true,decide_eq_true_eq,decide_eq_true_eq] at hB;obtain ⟨g1,g2⟩:=htext n hn;obtain ⟨x,l,hx,_,_,h48⟩:=JO n.natAbs;rw [hx] at g2;rw [hy] at g2;obtain ⟨e1,e2⟩:=ER.inj g2;by_cases hl0:l=[]
        · -- one digit,a nought: the number is 0,so no sign
          have hv:=Qak n.natAbs;rw [hx,hl0,<-e1,hB.1] at hv;have hn0:n=0:=by simp [val] at hv;omega
          have:Zm n=0:=by rw [hn0];rfl
          have hD1:D.length=1:=by rw [hy,e2,hl0];rfl
          omega
        · exact h48 hl0 (by rw [<-e1];exact hB.1)
      · have hB:(decide (y=48)&&decide (1 < (s.size:Int)))=false:=by simpa using hB
        refine Eg hB (Ee (R:=fun o=>o=.inl (0,false)/\(∀ n,c::t≠Xj n)\/o=.inr (val D)/\∀ z∈D,48<=z/\z<=57) (Es (fun x=>∃ k:Nat,x=(val (D.take k),((at_+k:Nat):Int))/\k<=D.length/\∀ z∈D.take k,48<=z/\z<=57) (fun x=>s.size - x.2.toNat) ⟨0,rfl,Ex _,by simp⟩ ?_) ?_)
        · rintro _ ⟨k,rfl,hk,hz⟩;unfold Qkx;by_cases hkl:k < D.length
          · have hgk : (Qq s)[at_ + k]'(by omega) = D[k] := by
              have:D[k]=((Qq s).drop at_)[k]'(by rw [List.length_drop];omega) := by congr 1;exact hD.symm
              rw [this,EM]
            have hik:idx (α:=Int) (bl s) ((at_+k:Nat):Int)=some D[k]:=by rw [Ji (by omega),hgk]
            refine Ef (Y1 (by omega)) (Eb hik ?_);have hnot:(¬ (48<=D[k]/\D[k]<=57))->∀ n,c::t≠Xj n:=fun hn n e=>by
              obtain ⟨_,g2⟩:=htext n e;have hm:=En hkl;have hm2:D[k]∈Ye n.natAbs:=g2▸hm;exact hn (Qbk hm2)
            refine Ee (R:=fun x=>¬ D[k] < 48->x=D[k]) (Runs.bif (fun hb=>⟨_,hik,fun _=>rfl⟩) (fun hb=>Ea fun hn=>?_)) ?_
            · simp at hb;omega
            intro x hx;refine Runs.bif (fun hb=>?_) (fun hb=>?_)
            · refine Ea (.inl ⟨rfl,hnot ?_⟩);rw [EE,decide_eq_true_eq,decide_eq_true_eq] at hb;rintro ⟨g1,g2⟩;have:=hx (by omega);omega
            · rw [EF,decide_eq_false_iff_not,decide_eq_false_iff_not] at hb;have:=hx hb.1;have hdig:48<=D[k]/\D[k]<=57:=by omega
              have hz':∀ z∈D.take (k+1),48<=z/\z<=57:=fun z hq=>by
                rw [<-Ep hkl] at hq;rcases List.mem_append.1 hq with hq | hq
                · exact hz z hq
                · rw [List.mem_singleton] at hq;rw [hq];exact hdig
              have hv:=Qdn hz (by rw [Eq_];omega);have hv':=Qdn hz' (by rw [Eq_];omega);have hdv:=Qls hkl;refine Eb hik (Ea ⟨⟨k+1,?_,by omega,hz'⟩,?_⟩)
              · rw [Go.IntWalk.u8_in _ (by omega),Xs (x:=D[k] - 48) (by omega),Xs (x:=10 * val (D.take k)) (by omega),Xs (by omega),XZ _ (by omega)];rw [hdv];congr 1;omega
              · show s.size - (w64 (((at_+k:Nat):Int)+1)).toNat < s.size - (((at_+k:Nat):Int)).toNat;rw [XZ _ (by omega)];simp;omega
          · obtain rfl:k=D.length:=by omega
            refine Eg ?_ (Ea (.inr ⟨?_,?_⟩))
            · rw [hDl.symm,Ez];exact Y2 _
            · rw [Ek (El _)]
            · rwa [Ek (El _)] at hz
        · rintro _ (⟨rfl,hno⟩ | ⟨rfl,hz⟩)
          · exact EU (.inr ⟨rfl,fun n e=>absurd e (hno n)⟩)
          · refine EV ?_;have hv:=Qdn hz (by omega);have hlead:D'≠[]->y≠48:=fun hne e=>by
              rw [e] at hB;have:1 < s.size:=by
                have:0 < D'.length:=List.length_pos_iff.2 hne;have:D.length=D'.length+1:=by rw [hy];rfl
                omega
              simp at hB;omega
            have hdn:Ye (val D).toNat=D:=by rw [hy];exact Qva (by rw [<-hy];exact hz) hlead
            rcases hcase with ⟨q1,q2,q3⟩ | ⟨q1,q2,q3⟩
            · have hne0 : val D ≠ 0 := fun e => by
                rw [e] at hdn;have e0:Ye 0=[48]:=by
                  unfold Ye;rw [Qav (k:=1) (by decide) (by decide) (.inl rfl)];rfl
                have hdn:[48]=D:=e0.symm.trans hdn;rw [hy] at hdn;have hy48:=(ER.inj hdn).1;rw [<-hy48] at hB;simp at hB;omega
              refine Ef (by rw [q1];rfl) (Ea (.inl ⟨-(val D),by rw [Xs (by omega)];simp,?_,?_⟩))
              · unfold Xj;rw [if_pos (by omega),show (-(val D)).natAbs=(val D).toNat by omega,hdn,q2,q3]
              · unfold Zm;rw [if_pos (by omega)];simp;omega
            · refine Eg (by rw [q1];rfl) (Ea (.inl ⟨val D,rfl,?_,?_⟩))
              · unfold Xj;rw [if_neg (by omega),show (val D).natAbs=(val D).toNat by omega,hdn,q3]
              · simp;omega
end Go.Gw

end
section
set_option maxRecDepth 4096
set_option linter.unusedVariables false
namespace Go.Gw
open Go
attribute [local irreducible] loop
def Z0 (x:Int):Prop:=-9223372036854775808<=x/\x<=9223372036854775807
theorem Qjq (x:Int):Z0 (w64 x):=by
 unfold w64 Z0;rw [IntKind.wrap_i64];omega
def Jp (e:Int):Prop:=e=0\/e=1\/e=2
theorem Qfx (x e:Int) (h:Jp e):Z0 (w64 x,e).1/\Jp (w64 x,e).2:=⟨Qjq x,h⟩
theorem Qsn {s:ByteArray} (h:s.size<=100000):tob s=some (Qq s:List Int):=by unfold tob;rw [if_pos (by omega)];rfl
theorem QDt {s:ByteArray} (hs:s.size<=100000):Runs (Qef s 10 0) fun r=>Jp r.2:=by
  have hlen:=Xx s;unfold Qef;refine Runs.bif (fun _=>Ea (.inr (.inr rfl))) (fun _=>Ef rfl (Ef rfl (Ef rfl (Eb (b:=(0:Int)) (by decide +kernel) (Eb (Qsn hs) ?_)))));refine Ee (R:=fun o=>(∃ a e,o=Sum.inl (a,e)/\Jp e)\/∃ v,o=Sum.inr v) (Es (fun x=>∃ k:Nat,x.2=(k:Int)/\k<=(Qq s).length) (fun x=>(Qq s).length - x.2.toNat) ⟨0,rfl,Ex _⟩ ?_) ?_
  · rintro ⟨x,_⟩ ⟨k,rfl,hk⟩;unfold Qmn;by_cases hkl:k < (Qq s).length
    · have hnext : ∀ y : Int, Rnd (fun x : Int × Int => ∃ k : Nat, x.2 = (k : Int) /\ k <= (Qq s).length) (fun x => (Qq s).length - x.2.toNat) (fun o : (Int × Int) ⊕ Int => (∃ a e, o = Sum.inl (a, e) /\ Jp e) \/ ∃ v, o = Sum.inr v) (x, ((k : Nat) : Int)) (Sum.inl (y, w64 ((k : Int) + 1))) := fun y => by
        refine ⟨⟨k+1,XZ k (by omega),by omega⟩,?_⟩;show (Qq s).length - (w64 ((k:Int)+1)).toNat < (Qq s).length - ((k:Nat):Int).toNat;rw [XZ k (by omega)];simp;omega
      refine Ef (Y1 hkl) (Eb (X0 (xs:=Qq s) hkl) (Ee (R:=fun o=>o=Sum.inl (Sum.inr (Sum.inl (0,2)))\/∃ z,o=Sum.inr z) (Eg (by simp) (Runs.bif (fun _=>Ea (.inr ⟨_,rfl⟩)) (fun _=>Eb (b:=J3 .u8 (Qq s)[k] 32) rfl (Ee (R:=fun _=>True) (Runs.bif (fun _=>Runs.of_eq (a:=J3 .u8 (Qq s)[k] 32) rfl trivial) (fun _=>Ea trivial)) fun q _=>Runs.bif (fun _=>Eb (b:=J3 .u8 (Qq s)[k] 32) rfl (Ea (.inr ⟨_,rfl⟩))) (fun _=>Ea (.inl rfl)))))) ?_));rintro _ (rfl | ⟨z,rfl⟩)
      · exact EU (.inl ⟨_,_,rfl,.inr (.inr rfl)⟩)
      · refine EV (Runs.bif (fun _=>Ea (.inl ⟨_,_,rfl,.inr (.inr rfl)⟩)) (fun _=>Runs.bif (fun _=>Ea (.inl ⟨_,_,rfl,.inr (.inl rfl)⟩)) (fun _=>Runs.bif (fun _=>Ea (.inl ⟨_,_,rfl,.inr (.inl rfl)⟩)) (fun _=>Ea (hnext _)))))
    · obtain rfl:k=(Qq s).length:=by omega
      exact Eg (Y2 _) (Ea (.inr ⟨_,rfl⟩))
  · rintro _ (⟨a,e,rfl,he⟩ | ⟨v,rfl⟩)
    · exact EU he
    · exact EV (Eb (b:=default) rfl (Eg rfl (Ea (.inl rfl))))
theorem QDs {s:ByteArray} (hs:s.size<=100000):Runs (Qee s 10 0) fun r=>Z0 r.1/\Jp r.2:=by
 have hlen:=Xx s;have hz:Z0 0:=⟨by decide,by decide⟩;unfold Qee;by_cases h0:s=ByteArray.mk #[]
 ·exact Ef (decide_eq_true h0) (Ea ⟨hz,.inr (.inr rfl)⟩)
 have h1:0 < s.size:=by
  rcases Nat.eq_zero_or_pos s.size with h | h
  ·refine absurd (JN ?_) h0;have:Qq s=[]:=EI (by omega);rw [this];rfl
  ·exact h
 obtain ⟨p,p1,p2⟩:=J8 (s:=s) (a:=1) (b:=s.size) h1 (El _);have hps:p.size<=s.size:=by rw [<-Xx,p2];simp;omega
 refine Eg (decide_eq_false h0) (Eb (Ji (k:=0) (by omega)) (Ee (R:=fun x=>x.1.size<=s.size) (Runs.bif (fun _=>Eb p1 (Ea hps)) (fun _=>Runs.bif (fun _=>Eb p1 (Ea hps)) (fun _=>Ea (El _)))) ?_));rintro ⟨x,b⟩ hx;refine Ee (QDt (s:=x) (ET hx hs)) fun r hr=>Runs.bif (fun _=>Ea ⟨hz,hr⟩) (fun _=>Ee (R:=fun y=>y=64) (Ef rfl (Ea rfl)) ?_);rintro _ rfl;exact Eb (b:=(9223372036854775808:Int)) (by decide +kernel) (Runs.bif (fun _=>Ea (Qfx _ _ (.inr (.inl rfl)))) (fun _=>Runs.bif (fun _=>Ea (Qfx _ _ (.inr (.inl rfl)))) (fun _=>Runs.bif (fun _=>Ea (Qfx _ _ (.inl rfl))) (fun _=>Ea (Qfx _ _ (.inl rfl))))))
theorem Qud {s:ByteArray} (h1:0 < s.size) (h2:s.size < 19):Runs (Qda s) fun r=>(Z0 r.1/\Jp r.2)/\∀ n,Qq s=Xj n->r=(n,0):=by
 have hlen:=Xx s;have hz:Z0 0:=⟨by decide,by decide⟩;unfold Qda;obtain ⟨c,t,hl⟩:∃ c t,Qq s=c::t:=by
  cases h:Qq s with
  | nil=>rw [h] at hlen;simp at hlen;omega
  | cons c t=>exact ⟨c,t,rfl⟩
 have ht:s.size=t.length+1:=by rw [<-hlen,hl];rfl
 have hi0:idx (α:=Int) (bl s) 0=some c:=by
  have:=Ji (s:=s) (k:=0) (by omega);rw [show ((0:Nat):Int)=0 from rfl] at this;rw [this];simp [hl]
 obtain ⟨p,p1,p2⟩:=J8 (s:=s) (a:=1) (b:=s.size) h1 (El _);have hp:Qq p=t:=by rw [p2,Ek (by omega),hl];rfl
 have hps:p.size=t.length:=by rw [<-Xx,hp]
 refine Ef (by simp;omega) (Eb hi0 (Ee (R:=fun x=>c≠45->x=c) (Runs.bif (fun _=>⟨_,hi0,fun _=>rfl⟩) (fun hb=>Ea fun hn=>by simp at hb;exact absurd hb hn)) ?_));intro x hx;refine Ee (R:=fun o=>o=Sum.inl (0,2)/\t=[]/\(c=45\/c=43)\/∃ q,o=Sum.inr q/\q.size<=s.size/\(((c=45\/c=43)/\Qq q=t)\/(c≠45/\c≠43/\q=s))) (Runs.bif (fun hb=>Eb p1 (Runs.bif (fun hb2=>Ea (.inl ⟨rfl,?_,?_⟩)) (fun hb2=>Ea (.inr ⟨p,rfl,by omega,.inl ⟨?_,hp⟩⟩)))) (fun hb=>Ea (.inr ⟨s,rfl,El _,.inr ?_⟩))) ?_
 ·have:=of_decide_eq_true hb2;exact EI (by omega)
 ·rw [EE,decide_eq_true_eq,decide_eq_true_eq] at hb;rcases hb with hb | hb
  ·exact .inl hb
  ·by_cases hc:c=45
   ·exact .inl hc
   ·exact .inr ((hx hc).symm.trans hb)
 ·rw [EE,decide_eq_true_eq,decide_eq_true_eq] at hb;rcases hb with hb | hb
  ·exact .inl hb
  ·by_cases hc:c=45
   ·exact .inl hc
   ·exact .inr ((hx hc).symm.trans hb)
 ·rw [EF,decide_eq_false_iff_not,decide_eq_false_iff_not] at hb;exact ⟨hb.1,fun e=>hb.2 ((hx hb.1).trans e),rfl⟩
 rintro _ (⟨rfl,ht0,hc⟩ | ⟨q,rfl,hqs,hq⟩)
 ·refine EU ⟨⟨hz,.inr (.inr rfl)⟩,fun n hn=>?_⟩;exfalso;rw [hl] at hn;obtain ⟨y,l,hy,_⟩:=JO n.natAbs;rcases Qdy hn with ⟨_,_,e3⟩ | ⟨e1,_,_,e4,_⟩
  ·rw [ht0,hy] at e3;cases e3
  ·rcases hc with hc | hc<;>omega
 refine EV (Eb (Qsn (by omega)) ?_);have hql:=Xx q;have hdig:∀ n,Qq s=Xj n->Qq q=Ye n.natAbs/\(c=45↔n < 0):=fun n hn=>by
  rw [hl] at hn;rcases Qdy hn with ⟨e1,e2,e3⟩ | ⟨e1,e2,e3,e4,e5⟩
  ·rcases hq with ⟨_,g⟩ | ⟨g,_⟩
   ·exact ⟨by rw [g,e3],⟨fun _=>e2,fun _=>e1⟩⟩
   ·exact absurd e1 g
  ·rcases hq with ⟨g | g,_⟩ | ⟨_,_,g⟩
   ·exact absurd g e1
   ·omega
   ·exact ⟨by rw [g,hl,e3],⟨fun h=>absurd h e1,fun h=>by omega⟩⟩
 refine Ee (R:=fun o=>o=Sum.inl (0,2)/\(∀ n,Qq s≠Xj n)\/∃ v,o=Sum.inr v/\Z0 v/\∀ n,Qq s=Xj n->v=val (Qq q)) (Es (fun x=>∃ k:Nat,x.2=(k:Int)/\k<=(Qq q).length/\Z0 x.1/\∀ n,Qq s=Xj n->x.1=val ((Qq q).take k)) (fun x=>(Qq q).length - x.2.toNat) ⟨0,rfl,Ex _,hz,fun _ _=>rfl⟩ ?_) ?_
 ·rintro ⟨v,_⟩ ⟨k,rfl,hk,hv,hvn⟩;unfold Qmm;dsimp only at hv hvn;by_cases hkl:k < (Qq q).length
  ·have hrng:=Quq (En hkl);refine Ef (Y1 hkl) (Eb (X0 (xs:=Qq q) hkl) (Runs.bif (fun hb=>?_) (fun hb=>?_)))
   ·refine Ea (.inl ⟨rfl,fun n hn=>?_⟩);have hm:(Qq q)[k]∈Ye n.natAbs:=(hdig n hn).1▸En hkl;have:=Qbk hm;have hb:=of_decide_eq_true hb;rw [Go.IntWalk.u8_in _ (by omega)] at hb;omega
   ·refine Ea ⟨⟨k+1,XZ k (by omega),by omega,Qjq _,fun n hn=>?_⟩,?_⟩
    ·show w64 _=_;have hz1:∀ z∈Qq q,48<=z/\z<=57:=fun z hzq=>Qbk ((hdig n hn).1▸hzq:z∈Ye n.natAbs)
     have hm:=hz1 _ (En hkl);have b1:=Qdn (D:=(Qq q).take k) (fun z hz2=>hz1 z (EG hz2)) (by rw [Eq_];omega);have b2:=Qdn (D:=(Qq q).take (k+1)) (fun z hz2=>hz1 z (EG hz2)) (by rw [Eq_];omega);have hdv:=Qls hkl;rw [hvn n hn,Go.IntWalk.u8_in _ (by omega),Xs (x:=(Qq q)[k] - 48) (by omega),Xs (x:=val ((Qq q).take k) * 10) (by omega),Xs (by omega),hdv]
    ·show (Qq q).length - (w64 ((k:Int)+1)).toNat < (Qq q).length - ((k:Nat):Int).toNat;rw [XZ k (by omega)];simp;omega
  ·obtain rfl:k=(Qq q).length:=by omega
   refine Eg (Y2 _) (Ea (.inr ⟨v,rfl,hv,fun n hn=>?_⟩));rw [hvn n hn,Ek (El _)]
 ·rintro _ (⟨rfl,hno⟩ | ⟨v,rfl,hv,hvn⟩)
  ·exact EU ⟨⟨hz,.inr (.inr rfl)⟩,fun n hn=>absurd hn (hno n)⟩
  ·refine EV (Eb hi0 (Runs.bif (fun hb=>?_) (fun hb=>?_)))
   ·refine Ea ⟨⟨Qjq _,.inl rfl⟩,fun n hn=>?_⟩;have h:=hvn n hn;rw [(hdig n hn).1,Qak] at h;have hneg:=((hdig n hn).2).1 (of_decide_eq_true hb);have h3:=hv.1;have h4:=hv.2;rw [h,Xs (by omega)];congr 1;omega
   ·refine Ea ⟨⟨hv,.inl rfl⟩,fun n hn=>?_⟩;have h:=hvn n hn;rw [(hdig n hn).1,Qak] at h;have hneg:=(hdig n hn).2;have hb:=of_decide_eq_false hb;rw [h];congr 1;omega
theorem Qlj {s:ByteArray} (h:s.size<=100000):Qbp s=some s:=by
 unfold Qbp;rw [decide_eq_true (by omega)];rfl
theorem QHw {f s:ByteArray} {e:Int} (hs:s.size<=100000) (h:Jp e) (h0:e≠0):Qfk f s 0 0 e=some (-1):=by
 refine EO ?_;unfold Qfk;rcases h with rfl | rfl | rfl
 ·exact absurd rfl h0
 ·refine Eg rfl (Ef rfl (Ee (R:=fun _=>True) ?_ fun _ _=>Ea rfl));unfold Qja;exact Eb (Qlj hs) (Ea trivial)
 ·refine Ef rfl (Ee (R:=fun _=>True) ?_ fun _ _=>Ea rfl);unfold Qjb;exact Eb (Qlj hs) (Ea trivial)
theorem Que {s:ByteArray} (hs:s.size<=100000):Runs (Qfj s) fun r=>Z0 r.1/\∀ n,Qq s=Xj n->s.size<=18->r=(n,0):=by
 unfold Qfj;refine Ee (R:=fun r=>(Z0 r.1/\Jp r.2)/\∀ n,Qq s=Xj n->s.size<=18->r=(n,0)) ?_ ?_
 ·by_cases h:0 < s.size/\s.size < 19
  ·exact Runs.mono (Qud h.1 h.2) fun r hr=>⟨hr.1,fun n hn _=>hr.2 n hn⟩
  ·unfold Qda;refine Eg ?_ (Ee (QDs hs) fun r hr=>Ea ⟨hr,fun n hn h18=>?_⟩)
   ·simp;omega
   ·exfalso;have:s.size=0:=by omega
    have h1:=Xx s;rw [hn,Qhb] at h1;have:=(Qau n.natAbs).1;omega
 ·rintro ⟨v,e⟩ ⟨⟨h1,h2⟩,h3⟩;by_cases he:e=0
  ·exact Eg (by simp [he]) (Ea ⟨h1,fun n hn h18=>by have:=h3 n hn h18;rw [Prod.mk.injEq] at this;rw [this.1]⟩)
  ·refine Ef (by simp [he]) (Eb (QHw hs h2 he) (Ea ⟨h1,fun n hn h18=>?_⟩));have:=h3 n hn h18;rw [Prod.mk.injEq] at this;exact absurd this.2 he
end Go.Gw

end
section
set_option maxRecDepth 4096
set_option linter.unusedVariables false
set_option linter.unusedSectionVars false
namespace Go.Gw
open Go
attribute [local irreducible] loop
theorem QHb {α:Type} (l:List α) (k:Nat) (hk:k < l.length):l.take k++[l[k]]=l.take (k+1):=by
 simp
theorem Qmi {α:Type} {xs:List α} (h:0 < xs.length):idx xs 0=some xs[0]:=X0 (k:=0) h
theorem Quy {α:Type} {xs:List α} (h:1<=xs.length):cut xs 1 (xs.length:Int)=some (xs.drop 1):=by
 unfold cut;rw [if_pos (by omega),Ei,List.take_length];rfl
def YE (sep:ByteArray):List ByteArray->ByteArray
 | []=>ByteArray.empty
 | a::l=>l.foldl (fun r x=>r++sep++x) a
theorem Qhn {sep:ByteArray} {l:List ByteArray} (h:l≠[]) (x:ByteArray):YE sep (l++[x])=YE sep l++sep++x:=by
 cases l with
 | nil=>exact absurd rfl h
 | cons a l=>simp [YE,List.foldl_append]
theorem Qhm {sep:ByteArray} {m:Nat} (hs:sep.size<=1):∀ {l:List ByteArray},(∀ s∈l,s.size<=m)->(YE sep l).size<=l.length * (m+1):=by
 have key:∀ (l:List ByteArray) (a:ByteArray),(∀ s∈l,s.size<=m)->(l.foldl (fun r x=>r++sep++x) a).size<=a.size+l.length * (m+1):=by
  intro l
  induction l with
  | nil=>intro a _;simp
  | cons x l ih =>
   intro a h;have h1:=ih (a++sep++x) fun s hs=>h s (Et _ hs)
   have h2:=h x (List.mem_cons_self ..);rw [ByteArray.size_append,ByteArray.size_append] at h1;rw [List.foldl_cons,Eu,Nat.succ_mul];omega
 intro l h;cases l with
 | nil=>simp [YE]
 | cons a l =>
  have h1:=key l a fun s hs=>h s (Et _ hs)
  have h2:=h a (List.mem_cons_self ..);rw [Eu,Nat.succ_mul];show (l.foldl (fun r x=>r++sep++x) a).size<=_;omega
theorem Qyw {l:List ByteArray} {sep:ByteArray} (hs:sep.size=1) (hl:l.length<=1000) (hm:∀ s∈l,s.size<=100000):Qbz l sep=some (YE sep l):=by
  refine EO ?_;unfold Qbz;by_cases h0:l.length=0
  · have:l=[]:=List.length_eq_zero_iff.1 h0;subst this;exact Ef rfl (Ea rfl)
  refine Eg (by simp;intro e;subst e;exact h0 rfl) ?_;by_cases h1:l.length=1
  · refine Ef (by rw [h1];rfl) (Eb (Qmi (by omega)) (Ea ?_));obtain ⟨a,rfl⟩:=List.length_eq_one_iff.1 h1;rfl
  refine Eg (by rw [decide_eq_false];omega) ?_;have e1:w64 ((l.length:Int) - 1)=((l.length - 1:Nat):Int):=by rw [Xs (by omega)];omega
  rw [hs,e1];refine Ee (R:=fun x=>x=((l.length - 1:Nat):Int)) (Ef rfl (Eb (QDw (by omega)) (Ee (R:=fun _=>True) (Eg ?_ (Ea trivial)) fun _ _=>Ea ?_))) ?_
  · refine decide_eq_false ?_;have h2:Eo 9223372036854775807 ((l.length - 1:Nat):Int)=((9223372036854775807 / (l.length - 1):Nat):Int):=rfl;have h3:9223372036854775807 / (l.length - 1)<=9223372036854775807:=Nat.div_le_self _ _;have h4:1000<=9223372036854775807 / (l.length - 1):=by
      rw [EB (by omega)];omega
    rw [h2,Xs (by omega)];omega
  · rw [Xs (x:=((1:Nat):Int) * ((l.length - 1:Nat):Int)) (by omega),Xs (by omega)];omega
  rintro _ rfl;refine Ee (R:=fun x=>0<=x/\x<=1000+100000 * 1000) (Es (fun s=>∃ k:Nat,s.2=(k:Int)/\k<=l.length/\0<=s.1/\s.1<=1000+100000 * (k:Int)) (fun s=>l.length - s.2.toNat) ⟨0,rfl,Ex _,by show (0:Int)<=((l.length - 1:Nat):Int);omega,by show ((l.length - 1:Nat):Int)<=_;omega⟩ ?_) ?_
  · rintro ⟨x,_⟩ ⟨k,rfl,hk,h2,h3⟩;dsimp only at h2 h3;unfold Qrs;by_cases hlt:k < l.length
    · have h4:=hm _ (En hlt);refine Ef (Y1 hlt) (Eb (X0 hlt) (Eg ?_ (Ea ⟨⟨k+1,?_,by omega,?_,?_⟩,?_⟩)))
      · rw [Xs (by omega)];exact decide_eq_false (by omega)
      · exact XZ k (by omega)
      · show 0<=w64 (x+(l[k].size:Int));rw [Xs (by omega)];omega
      · show w64 (x+(l[k].size:Int))<=_;rw [Xs (by omega)];omega
      · show l.length - (w64 ((k:Int)+1)).toNat < l.length - ((k:Nat):Int).toNat;rw [XZ k (by omega)];simp;omega
    · have:k=l.length:=by omega
      subst this;refine Eg (Y2 _) (Ea ⟨h2,?_⟩);show x<=_;omega
  rintro x ⟨h2,h3⟩;have hg:grw x=some ():=by unfold grw;rw [if_pos (by omega)]
  refine Eb hg (Eb (Qmi (by omega)) (Eb (YM (by rw [YZ];have:=hm _ (En (show 0 < l.length by omega));simp;omega)) ?_));have hcut:cut l 1 (l.length:Int)=some (l.drop 1):=Quy (by omega);refine Eb hcut ?_;have hjs:∀ k,k<=l.length->(YE sep (l.take k)).size<=1000 * 100001:=fun k hk=>by
    have:=Qhm (sep:=sep) (m:=100000) (by omega) (l:=l.take k) fun s hs=>hm s (EG hs)
    have h5:(l.take k).length<=1000:=by simp;omega
    exact ET this (Nat.mul_le_mul_right _ h5)
  refine Runs.bind (Runs.mono (Q:=fun xs=>xs=bl (YE sep l)) (Es (fun s=>∃ k:Nat,s=((k:Int),bl (YE sep (l.take (k+1))))/\k+1<=l.length) (fun s=>l.length - s.1.toNat) ⟨0,?_,by omega⟩ ?_) ?_)
  · have : l.take (0 + 1) = [l[0]'(by omega)] := by
      cases l with
      | nil=>exact absurd rfl h0
      | cons a l=>rfl
    rw [this];rfl
  · rintro _ ⟨k,rfl,hk⟩;unfold Qrt;have hdl:(l.drop 1).length=l.length - 1:=by simp
    by_cases hlt:k+1 < l.length
    · have h4:=hm _ (En hlt);have h5:=hjs (k+1) hk;have h6:((l.drop 1)[k]'(by omega)).size<=100000 := by rw [EM];exact hm _ (En _)
      have h7:(bl (YE sep (l.take (k+1)))).length+(bl sep).length<=1073741824:=by rw [YZ,YZ,hs];omega
      have h8:(bl (YE sep (l.take (k+1)))++bl sep).length+(bl ((l.drop 1)[k]'(by omega))).length<=1073741824 := by rw [List.length_append, YZ, YZ, YZ, hs];omega
      refine Ef (Y1 (by omega)) (Eb (X0 (xs:=l.drop 1) (by omega)) (Eb (YM h7) (Eb (YM h8) (Ea ⟨⟨k+1,?_,by omega⟩,?_⟩))))
      · rw [XZ k (by omega),<-Qgt,<-Qgt,<-Qhn (List.ne_nil_of_length_pos (by rw [Eq_];omega))];have:l.take (k+1)++[(l.drop 1)[k]'(by omega)]=l.take (k+1+1) := by
          rw [EM,<-QHb l (k+1) hlt];simp only [Ez]
        rw [this]
      · show l.length - (w64 ((k:Int)+1)).toNat < l.length - ((k:Nat):Int).toNat;rw [XZ k (by omega)];simp;omega
    · refine Eg ?_ (Ea ?_)
      · have:k=(l.drop 1).length:=by omega
        subst this;exact Y2 _
      · show bl (YE sep (l.take (k+1)))=_;rw [Ek (by omega)]
  · rintro _ rfl;exact Ea (Qeu _)
end Go.Gw

end
section
set_option linter.unusedVariables false
set_option linter.unusedSectionVars false
namespace Go.Gw
open Go Go.Conc
section
variable {P:Program}
def J1 (P:Program):Jd P:=⟨true,fun _=>False,fun _ _ _=>False⟩
theorem QGj {Stop:Goroutine->World->Prop} {g:Goroutine} {w:World} (h:Wlk (J1 P) Stop g w):∀ (F:Nat->Prop) (W:World),YJ w->Agr F (fun _=>False) w W ->
  ∃ g' w' F' W',Stop g' w'/\Steps P (solo g W) (solo g' W')/\YJ w'/\AgrTo F (fun _=>False) W F' w' W':=by
 induction h with
 | stop h=>exact fun F W hv hA=>⟨_,_,F,W,h _ (Rel.refl _),Steps.refl _ _,hv,⟨hA,fun _ x=>x,fun _ x=>.inl x,El _,fun _ _ _=>rfl,rfl,rfl,rfl⟩⟩
 | step nx hs h1 h2 ih =>
  intro F W hv hA;obtain ⟨hv',hk⟩:=h1 _ (Rel.refl _) hv;obtain ⟨F1,W1,es,k1,k2,_⟩:=hk F W hA;obtain ⟨g',w',F',W',l1,l2,l3,l4⟩:=ih _ (Rel.refl _) F1 W1 hv' k2.agr;exact ⟨g',w',F',W',l1,Steps.head (step_solo_go hs k1) l2,l3,k2.trans l4⟩
 | phase S hs h1 h2 ih=>exact (h1 _ (Rel.refl _)).elim
def Qka (P:Program) (f:FuncId) (cs:List Frame) (Φ:Value->World->Prop) (g:Goroutine) (w:World):Prop :=
 ∃ fr v,g=G fr cs/\fr.fn=f/\Φ v w/\∀ F W,YJ w->Agr F (fun _=>False) w W->fr.leaving P W (.returned v)
theorem Qzj {f:FuncId} {cs:List Frame} {b:Frame} {a:Act} {todo:List Item} {fn:Func} {v:Value} {Φ:Value->World->Prop} {w:World} (hn:b.kind=.normal) (hd:a.defers=[]) (hb:b.fn=f) (hf:P.funcs[f]?=some fn) (ht:Tame P (results fn a.tmps)) (hr:(results fn a.tmps).run P w=.ok v w)
  (hΦ:Φ v w):Qka P f cs Φ (G { b.at a todo with mode:=.returning } cs) w:=by
 refine ⟨_,v,rfl,hb,hΦ,fun F W hv hA=>⟨rfl,hd,hn,fn,by rw [<-hb] at hf;exact hf,?_⟩⟩;have hT:∀ w,(results fn a.tmps).runT P w #[]=((results fn a.tmps).run P w,(results fn a.tmps).events P w #[]):=fun w=>Sem.runT_eq P _ w #[]
 have h0:=hT w;rw [hr] at h0;obtain ⟨F',W',us,h1,h2,_,h4,h5⟩:=frame ht hA hv h0;have h6:=hT W;rw [h1] at h6;have h7:=(Prod.mk.inj h6).1;have hW:W'=W:=by
  have e1:W'.heap=W.heap:=by
   apply Array.ext_getElem?;intro i;rcases EP i W.heap.size with hlt | hge
   ·rcases Classical.em (F i) with hF | hF
    ·rw [h2.agr.own i (h2.more i hF) (fun h=>h),hA.own i hF (fun h=>h)]
    ·exact h2.keep i hlt (.inl hF)
   ·have:=h2.agr.size;have:=hA.size;simp_all
  have e2:W'.drawn=W.drawn:=by rw [h2.agr.drawn,hA.drawn]
  obtain ⟨e3,e4,e5⟩:=h2.same;cases W';simp_all
 subst hW;exact h7.symm
def Qgg (P:Program) (f:FuncId) (args:List Value) (w:World) (Φ:Value->World->Prop):Prop:=∀ cs,Wlk (J1 P) (fun g w=>∀ w1,Rel w w1->Qka P f cs Φ g w1) (G (Frame.enter P f args.toArray .normal) cs) w
theorem QHx {n:Nat} {w:World} {f:FuncId} {fn:Func} {c:Code} {args:List Value} {rs:List ResultVar} {r:Bool} [inst:JD P] (hj:inst.j=J1 P) (hi:P.inits.idxOf? f=none) (hf:P.funcs[f]?=some fn) (hb:fn.body=some c) (hn:fn.ntmps=n) (hl:Nat.ble args.length n=true)
    (hr:fn.results=rs.toArray) (hm:YS rs n=true)
    (h:WC P n c ⟨fun _ _=>False,fun _ _ _=>False,fun ρ w'=>∃ vs,Jq P ρ w' rs vs/\(Ext w w'/\(.bool r)=ZX vs)⟩ (fun i=>args.getD i undef) w):Qgg P f args w (fun v w'=>Ext w w'/\(.bool r)=v):=by
  intro cs;have hl:args.length<=n:=by simpa using hl
  rw [enter_at _ hf hb,hn,Qhe args n hl,<-hj];refine h (base f) [] cs _ (by simp [base]) fun e a w he=>?_;cases e<;>first
    | exact he.elim
    | (obtain ⟨_,_,hf⟩:=he;exact hf.elim)
    | skip
  obtain ⟨ρ,rfl,vs,hv,hΦ⟩:=he;exact fun todo=>.stop fun w1 r1 w2 r2=>Qzj (b:=base f) rfl rfl rfl hf (Qjo hr hm hv) (Qiv hr hm (r1.trans r2) hv) ⟨hΦ.1.trans (r1.trans r2).ext,hΦ.2⟩
theorem QHy {f:FuncId} {args:List Value} {W:World} {r:Bool} (h:Qgg P f args (view0 W) (fun v w'=>Ext (view0 W) w'/\(.bool r)=v)) :
  Calls P f args.toArray W fun e W'=>∃ v,e=.returned v/\v=.bool r/\Ext W W':=by
 intro cs;obtain ⟨g',w',F',W',h1,h2,h3,h4⟩:=QGj (h cs) (Qfg W) W (QIi W) (Qsw W);obtain ⟨fr,v,rfl,hfn,⟨hE,hv⟩,hl⟩:=h1 w' (Rel.refl _);refine ⟨.returned v,W',fr,⟨v,rfl,hv.symm,?_⟩,h2,hfn,hl F' W' h3 h4.agr⟩;exact Qwc hE h4.agr ⟨h4.more,fun b hb=>(h4.new b hb).imp id (·.1),fun b hb hn=>h4.keep b hb (.inl hn),h4.size,h4.same⟩
end
end Go.Gw

end
section
namespace Go.Gw
open Go Go.Proofs
instance soloJ:JD Tryz.prog:=⟨J1 Tryz.prog⟩
end Go.Gw

end
