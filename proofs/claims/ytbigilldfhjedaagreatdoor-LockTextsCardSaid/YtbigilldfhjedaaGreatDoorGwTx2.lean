/- Laws of the walk. Condition: each theorem says its own. -/
import Derived.Test.YtbigilldfhjedaaGreatDoorGwPl
import Derived.Test.YtbigilldfhjedaaGreatDoorGwFnZ
import Derived.Test.YtbigilldfhjedaaGreatDoorGwLib21
import Derived.Lib.Bytealg
import Derived.Test.YtbigilldfhjedaaGreatDoorGwCj7
set_option linter.unusedVariables false
set_option linter.unusedSimpArgs false
set_option linter.unusedSectionVars false
open Go.Gw.Runs renaming some→Ea,call→Eb,callR→Ee,bif_t→Eh,bif_f→Ek,loop→EA,eq→EP,jl→EW,jr→EX
open Int renaming tdiv_eq_ediv_of_nonneg→Ec,tmod_eq_emod_of_nonneg→Ed,toNat_natCast→Ej,tdiv→Ep,tmod→EY
open Option renaming map_eq_some_iff→Ef,bind→EI
open List renaming replicate→Eg,take_of_length_le→Em,take_append_getElem→Eq_,count_cons_self→Es,length_take→Et,map_append→Ev,map_cons→Ex,getElem_mem→Ey,count_cons_of_ne→EB,drop_append_of_le_length→EG,eq_nil_of_length_eq_zero→EH,count_eq_zero→EJ,append_assoc→EK,drop_eq_getElem_cons→EL,length_cons→EM,length_set→EN,cons→EO,set_append_right→ER,mem_cons_of_mem→ES,mem_of_mem_take→ET
open Nat renaming le_refl→El,div_div_eq_div_mul→En,lt_of_lt_of_le→Eo,mod_lt→Er,pow_add→Eu,zero_le→Ew,pow_le_pow_right→EC,add_comm→ED,le_div_iff_mul_le→EQ,lt_or_ge→EU
open Array renaming mem_append→Ez,append_assoc→EV
open Bool renaming or_eq_true→EE,or_eq_false_iff→EF
section
set_option maxRecDepth 4096
namespace Go.Gw
open Go
attribute [local irreducible] loop
theorem Q0m (n:Int) (h:-9223372036854775807<=n/\n<=9223372036854775807):Qht n=some ((n.natAbs:Nat):Int):=by
 unfold Qht;rw [XS (by omega)];split<;>(congr 1;omega)
theorem Q4i (x:Int):(Ep x 10).natAbs=x.natAbs / 10/\(EY x 10).natAbs=x.natAbs % 10/\(0<=x->0<=Ep x 10)/\(x<=0->Ep x 10<=0):=by
 rcases Int.eq_nat_or_neg x with ⟨m,rfl | rfl⟩
 ·have G:Ep (m:Int) 10=((m / 10:Nat):Int):=rfl;have H:EY (m:Int) 10=((m % 10:Nat):Int):=rfl;rw [G,H];omega
 ·have G:Ep (-(m:Int)) 10=-((m / 10:Nat):Int):=by rw [Int.neg_tdiv];rfl
  have H:EY (-(m:Int)) 10=-((m % 10:Nat):Int):=by rw [Int.neg_tmod];rfl
  rw [G,H];omega
theorem QDl {d:Nat} (h:d < 10):QB (YS ([IntKind.wrap .u8 (w64 (48+(d:Int)))]:List U8))=[48+(d:Int)]:=by
 rw [XS (by omega),Go.IntWalk.u8_in _ (by omega)];refine Qxw (l:=[48+(d:Int)]) fun x hx=>?_;have hx:=List.mem_singleton.1 hx;subst hx;omega
theorem Qxy {a b:ByteArray} (h:a.size+b.size<=1048576):YL a b=some (a++b):=by unfold YL;rw [if_pos h]
theorem decT_zero:Yw 0=⟨#[48]⟩:=by
 refine Qgb ?_;rw [Qef];have:nd 0=1:=by rw [nd];rfl
 unfold Ya Y2;rw [if_neg (by decide)];show Yx (nd 0) 0=_;rw [this];rfl
theorem Qlm {n:Int} (h:-9223372036854775808<=n/\n<=9223372036854775807):Qax n=some (Yw n):=by
  refine EP ?_;unfold Qax;by_cases J:n=0
  · subst J;exact Eh rfl (Ea decT_zero.symm)
  refine Ek (decide_eq_false J) (Ee (R:=fun s=>QB s=if n < 0 then [45] else []) ?_ ?_)
  · refine Runs.bif (fun hb=>Ea ?_) (fun hb=>Ea ?_)
    · rw [if_pos (of_decide_eq_true hb)];rfl
    · rw [if_neg (of_decide_eq_false hb)];rfl
  intro sg hsg;obtain ⟨N,hN⟩:∃ N,N=n.natAbs:=⟨_,rfl⟩;have aa:1<=N:=by omega
  have M:N < 10 ^ 19:=by omega
  refine Ee (R:=fun s=>QB s=Y2 N) (EA (fun s=>∃ j:Nat,s.1.natAbs=N / 10 ^ j/\QB s.2=Yx j N/\(j=0\/10 ^ (j - 1)<=N)/\(j=0->s.1=n)/\s.1.natAbs<=9223372036854775808/\(s.1=-9223372036854775808->j=0)) (fun s=>s.1.natAbs) ⟨0,by simp [hN],rfl,.inl rfl,fun _=>rfl,by show n.natAbs<=_;omega,fun _=>rfl⟩ ?_) ?_
  · rintro ⟨x,s⟩ ⟨j,G,H,I,U,V,Y⟩;dsimp only at G H U V Y;unfold Qxl;have hj:j<=19:=by
      rcases I with I | I
      · omega
      · rcases EU 19 j with hlt | hge
        · have:=EC (show 0 < 10 by decide) (show 19<=j - 1 by omega);omega
        · exact hge
    by_cases hx:x=0
    · subst hx;refine Ek rfl (Ea ?_);have hlt:N < 10 ^ j:=by
        rcases EU N (10 ^ j) with h | h
        · exact h
        · have:1<=N / 10 ^ j:=(EQ (Nat.pow_pos (by decide))).2 (by omega);simp at G;omega
      have O:j≠0:=fun e=>by subst e;simp at hlt;omega
      show QB s=Y2 N;have:nd N=j:=Qev (by omega) hlt (.inr (I.resolve_left O));unfold Y2;rw [this];exact H
    · obtain ⟨t1,t2,t3,t4⟩:=Q4i x;have hs:Qht (EY x 10)=some (((x.natAbs % 10:Nat)):Int):=by rw [<-t2];exact Q0m _ (by omega)
      have hsz:s.size=j:=by rw [<-YR,H,Qel]
      have hob:(YS ([IntKind.wrap .u8 (w64 (48+((x.natAbs % 10:Nat):Int)))]:List U8)).size=1:=by rw [<-YR,QDl (Er _ (by decide))];rfl
      refine Eh (by simp [hx]) (Eb hs (Eb (Qxy (by omega)) (Ea ⟨⟨j+1,?_,?_,.inr ?_,fun h=>absurd h (by omega),?_,fun h=>?_⟩,?_⟩)))
      · show (w64 (Ep x 10)).natAbs=_;rw [XS (by omega),t1,G,En,Nat.pow_succ]
      · show QB (_++s)=_;rw [Z6,QDl (Er _ (by decide)),H,Qcu,G];rfl
      · rw [Nat.add_sub_cancel];rcases EU N (10 ^ j) with h | h
        · rw [Nat.div_eq_of_lt h] at G;omega
        · exact h
      · show (w64 (Ep x 10)).natAbs<=_;rw [XS (by omega)];omega
      · exfalso;have h:w64 (Ep x 10)=_:=h;rw [XS (by omega)] at h;omega
      · show (w64 (Ep x 10)).natAbs < x.natAbs;rw [XS (by omega)];omega
  · intro s hs;have e1:sg.size<=1:=by rw [<-YR,hsg];split<;>simp
    have e2:s.size<=19:=by rw [<-YR,hs];unfold Y2;rw [Qel];exact Qis (by decide) M
    refine Eb (Qxy (by omega)) (Ea (Qgb ?_));rw [Z6,hsg,hs,Qef,hN];unfold Ya;split<;>rfl
end Go.Gw

end
section
set_option maxRecDepth 8192
namespace Go.Gw
open Go
attribute [local irreducible] loop
/-! ### How many digits -/
theorem QPz:∀ k:Fin 256,(match idx (α:=Int) (bl (ByteArray.mk #[0,1,2,2,3,3,3,3,4,4,4,4,4,4,4,4,5,5,5,5,5,5,5,5,5,5,5,5,5,5,5,5,6,6,6,6,6,6,6,6,6,6,6,6,6,6,6,6,6,6,6,6,6,6,6,6,6,6,6,6,6,6,6,6,7,7,7,7,7,7,7,7,7,7,7,7,7,7,7,7,7,7,7,7,7,7,7,7,7,7,7,7,7,7,7,7,7,7,7,7,7,7,7,7,7,7,7,7,7,7,7,7,7,7,7,7,7,7,7,7,7,7,7,7,7,7,7,7,8,8,8,8,8,8,8,8,8,8,8,8,8,8,8,8,8,8,8,8,8,8,8,8,8,8,8,8,8,8,8,8,8,8,8,8,8,8,8,8,8,8,8,8,8,8,8,8,8,8,8,8,8,8,8,8,8,8,8,8,8,8,8,8,8,8,8,8,8,8,8,8,8,8,8,8,8,8,8,8,8,8,8,8,8,8,8,8,8,8,8,8,8,8,8,8,8,8,8,8,8,8,8,8,8,8,8,8,8,8,8,8,8,8,8,8,8,8,8,8,8,8,8,8,8,8,8,8])) ((k.val:Nat):Int) with
  | some v=>decide (k.val=0\/(1<=v/\v<=8/\2 ^ (v.toNat - 1)<=k.val/\k.val < 2 ^ v.toNat))
  | none=>false)=true:=by decide +kernel
theorem QAf {z:Nat} (O:1<=z) (h:z < 256):∃ v:Nat,idx (α:=Int) (bl (ByteArray.mk #[0,1,2,2,3,3,3,3,4,4,4,4,4,4,4,4,5,5,5,5,5,5,5,5,5,5,5,5,5,5,5,5,6,6,6,6,6,6,6,6,6,6,6,6,6,6,6,6,6,6,6,6,6,6,6,6,6,6,6,6,6,6,6,6,7,7,7,7,7,7,7,7,7,7,7,7,7,7,7,7,7,7,7,7,7,7,7,7,7,7,7,7,7,7,7,7,7,7,7,7,7,7,7,7,7,7,7,7,7,7,7,7,7,7,7,7,7,7,7,7,7,7,7,7,7,7,7,7,8,8,8,8,8,8,8,8,8,8,8,8,8,8,8,8,8,8,8,8,8,8,8,8,8,8,8,8,8,8,8,8,8,8,8,8,8,8,8,8,8,8,8,8,8,8,8,8,8,8,8,8,8,8,8,8,8,8,8,8,8,8,8,8,8,8,8,8,8,8,8,8,8,8,8,8,8,8,8,8,8,8,8,8,8,8,8,8,8,8,8,8,8,8,8,8,8,8,8,8,8,8,8,8,8,8,8,8,8,8,8,8,8,8,8,8,8,8,8,8,8,8,8,8,8,8,8,8])) (z:Int)=some (v:Int)/\1<=v/\v<=8/\2 ^ (v - 1)<=z/\z < 2 ^ v:=by
 have:=QPz ⟨z,h⟩;dsimp only at this;cases hq:idx (α:=Int) (bl (ByteArray.mk #[0,1,2,2,3,3,3,3,4,4,4,4,4,4,4,4,5,5,5,5,5,5,5,5,5,5,5,5,5,5,5,5,6,6,6,6,6,6,6,6,6,6,6,6,6,6,6,6,6,6,6,6,6,6,6,6,6,6,6,6,6,6,6,6,7,7,7,7,7,7,7,7,7,7,7,7,7,7,7,7,7,7,7,7,7,7,7,7,7,7,7,7,7,7,7,7,7,7,7,7,7,7,7,7,7,7,7,7,7,7,7,7,7,7,7,7,7,7,7,7,7,7,7,7,7,7,7,7,8,8,8,8,8,8,8,8,8,8,8,8,8,8,8,8,8,8,8,8,8,8,8,8,8,8,8,8,8,8,8,8,8,8,8,8,8,8,8,8,8,8,8,8,8,8,8,8,8,8,8,8,8,8,8,8,8,8,8,8,8,8,8,8,8,8,8,8,8,8,8,8,8,8,8,8,8,8,8,8,8,8,8,8,8,8,8,8,8,8,8,8,8,8,8,8,8,8,8,8,8,8,8,8,8,8,8,8,8,8,8,8,8,8,8,8,8,8,8,8,8,8,8,8,8,8,8,8])) (z:Int) with
 | none=>rw [hq] at this;cases this
 | some v =>
  rw [hq] at this;have:=of_decide_eq_true this;rcases this with M | ⟨I,J,G,H⟩
  ·omega
  ·exact ⟨v.toNat,by congr 1;omega,by omega,by omega,G,H⟩
theorem QDu {x c z v:Nat} (hz:z=x / 2 ^ c) (I:1<=v) (H:2 ^ (v - 1)<=z) (G:z < 2 ^ v):2 ^ (c+v - 1)<=x/\x < 2 ^ (c+v):=by
 have hp:0 < 2 ^ c:=Nat.pow_pos (by decide);constructor
 ·have:=(EQ hp).1 (hz▸H);rw [<-Eu] at this;rwa [show c+v - 1=v - 1+c by omega]
 ·rw [hz] at G;have:=(Nat.div_lt_iff_lt_mul hp).1 G;rw [<-Eu] at this;rwa [ED]
theorem Qux (k:Nat) (a:Nat) (h:k<=64):Qdj .u64 (a:Int) (k:Int)=some ((a / 2 ^ k:Nat):Int):=by
 unfold Qdj;rw [if_pos ⟨by omega,by show (k:Int)<=((64:Nat):Int);omega⟩,Ej];rw [show (2:Int) ^ k=((2 ^ k:Nat):Int) by simp,Int.ofNat_fdiv]
theorem QPy {x:Nat} (h1:1<=x) (h:x < 2 ^ 64):∃ L:Nat,Qgq (x:Int)=some (L:Int)/\1<=L/\L<=64/\2 ^ (L - 1)<=x/\x < 2 ^ L:=by
 have key:Runs (Qgq (x:Int)) fun q=>∃ L:Nat,q=(L:Int)/\1<=L/\L<=64/\2 ^ (L - 1)<=x/\x < 2 ^ L:=by
  unfold Qgq;refine Ee (R:=fun s=>∃ A B:Nat,s=((A:Int),(B:Int))/\A=x / 2 ^ B/\1<=A/\A < 2 ^ 32/\B<=32) (Runs.bif (fun hb=>?_) (fun hb=>?_)) ?_
  ·have:=of_decide_eq_true hb;exact Eb (Qux 32 x (by decide)) (Ea ⟨x / 2 ^ 32,32,rfl,rfl,by omega,by omega,El _⟩)
  ·have:=of_decide_eq_false hb;exact Ea ⟨x,0,rfl,by simp,by omega,by omega,by decide⟩
  rintro _ ⟨A,B,rfl,hA,M,U,hB⟩;refine Ee (R:=fun s=>∃ C D:Nat,s=((C:Int),(D:Int))/\C=x / 2 ^ D/\1<=C/\C < 2 ^ 16/\D<=48) (Runs.bif (fun hb=>?_) (fun hb=>?_)) ?_
  ·have:=of_decide_eq_true hb;refine Eb (Qux 16 A (by decide)) (Ea ⟨A / 2 ^ 16,B+16,?_,?_,by omega,by omega,by omega⟩)
   ·rw [XS (by omega)];rfl
   ·rw [hA,En,<-Eu]
  ·have:=of_decide_eq_false hb;exact Ea ⟨A,B,rfl,hA,M,by omega,by omega⟩
  rintro _ ⟨C,D,rfl,hC,V,Y,hD⟩;refine Runs.bif (fun hb=>?_) (fun hb=>?_)
  ·have:=of_decide_eq_true hb;have hz:C / 2 ^ 8=x / 2 ^ (D+8):=by rw [hC,En,<-Eu]
   obtain ⟨v,e,H,O,I,J⟩:=QAf (z:=C / 2 ^ 8) (by omega) (by omega);obtain ⟨p1,G⟩:=QDu hz H I J;refine Eb (Qux 8 C (by decide)) (Eb (b:=(v:Int)) ?_ (Ea ⟨D+8+v,?_,by omega,by omega,p1,G⟩))
   ·rw [Go.IntWalk.u8_in _ (by omega)];exact e
   ·rw [XS (x:=(v:Int)) (by omega),XS (x:=(D:Int)+8) (by omega),XS (by omega)];rfl
  ·have:=of_decide_eq_false hb;obtain ⟨v,e,H,O,I,J⟩:=QAf (z:=C) (by omega) (by omega);obtain ⟨p1,G⟩:=QDu hC H I J;refine Eb (b:=(v:Int)) ?_ (Ea ⟨D+v,?_,by omega,by omega,p1,G⟩)
   ·rw [Go.IntWalk.u8_in _ (by omega)];exact e
   ·rw [XS (x:=(v:Int)) (by omega),XS (by omega)];rfl
 obtain ⟨q,hq,L,rfl,hL⟩:=key;exact ⟨L,hq,hL⟩
theorem QSd:∀ L:Fin 65,(match Qme ((L.val:Nat):Int) with
  | some r=>decide (L.val=0\/(0<=r/\r < 20/\2 ^ L.val<=10 ^ (r.toNat+1)/\(r.toNat=0\/10 ^ (r.toNat - 1)<=2 ^ (L.val - 1))))
  | none=>false)=true:=by decide +kernel
theorem Q4j:∀ r:Fin 20,idx ([1,10,100,1000,10000,100000,1000000,10000000,100000000,1000000000,10000000000,100000000000,1000000000000,10000000000000,100000000000000,1000000000000000,10000000000000000,100000000000000000,1000000000000000000,10000000000000000000]:List Int) ((r.val:Nat):Int)=some (((10 ^ r.val:Nat)):Int):=by decide +kernel
theorem QWq {d:Nat} (I:1<=d) (h:d < 2 ^ 64):Qmg (d:Int)=some ((nd d:Nat):Int):=by
 obtain ⟨L,hL,J,M,H,O⟩:=QPy I h;have hr:=QSd ⟨L,by omega⟩;dsimp only at hr;cases hq:Qme (L:Int) with
 | none=>rw [hq] at hr;cases hr
 | some r =>
  rw [hq] at hr;rcases of_decide_eq_true hr with U | ⟨V,Y,r2,G⟩
  ·omega
  obtain ⟨k,rfl⟩:∃ k:Nat,r=(k:Int):=⟨r.toNat,by omega⟩;rw [Ej] at r2 G;have ht:=Q4j ⟨k,by omega⟩;dsimp only at ht;refine EP ?_;unfold Qmg;refine Eb hL (Eb hq (Eb ht ?_));by_cases hd:10 ^ k<=d
  ·have hn:nd d=k+1:=Qev (by omega) (by omega) (.inr hd);refine Eb (b:=(1:Int)) ?_ (Ea ?_)
   ·unfold Qmd;rw [decide_eq_true (by omega)];rfl
   ·rw [XS (by omega),hn];rfl
  ·have hk:k≠0:=fun e=>by subst e;simp at hd;omega
   have hn:nd d=k:=Qev (by omega) (by omega) (.inr (Nat.le_trans (G.resolve_left hk) H));refine Eb (b:=(0:Int)) ?_ (Ea ?_)
   ·unfold Qmd;rw [decide_eq_false (by omega)];rfl
   ·rw [XS (by omega),hn];simp
/-! ### Two digits at a time -/
theorem Q4o:∀ z:Fin 100,idx (α:=Int) (bl (ByteArray.mk #[48,48,48,49,48,50,48,51,48,52,48,53,48,54,48,55,48,56,48,57,49,48,49,49,49,50,49,51,49,52,49,53,49,54,49,55,49,56,49,57,50,48,50,49,50,50,50,51,50,52,50,53,50,54,50,55,50,56,50,57,51,48,51,49,51,50,51,51,51,52,51,53,51,54,51,55,51,56,51,57,52,48,52,49,52,50,52,51,52,52,52,53,52,54,52,55,52,56,52,57,53,48,53,49,53,50,53,51,53,52,53,53,53,54,53,55,53,56,53,57,54,48,54,49,54,50,54,51,54,52,54,53,54,54,54,55,54,56,54,57,55,48,55,49,55,50,55,51,55,52,55,53,55,54,55,55,55,56,55,57,56,48,56,49,56,50,56,51,56,52,56,53,56,54,56,55,56,56,56,57,57,48,57,49,57,50,57,51,57,52,57,53,57,54,57,55,57,56,57,57])) (2 * ((z.val:Nat):Int)+1)=some (48+((z.val % 10:Nat):Int))/\idx (α:=Int) (bl (ByteArray.mk #[48,48,48,49,48,50,48,51,48,52,48,53,48,54,48,55,48,56,48,57,49,48,49,49,49,50,49,51,49,52,49,53,49,54,49,55,49,56,49,57,50,48,50,49,50,50,50,51,50,52,50,53,50,54,50,55,50,56,50,57,51,48,51,49,51,50,51,51,51,52,51,53,51,54,51,55,51,56,51,57,52,48,52,49,52,50,52,51,52,52,52,53,52,54,52,55,52,56,52,57,53,48,53,49,53,50,53,51,53,52,53,53,53,54,53,55,53,56,53,57,54,48,54,49,54,50,54,51,54,52,54,53,54,54,54,55,54,56,54,57,55,48,55,49,55,50,55,51,55,52,55,53,55,54,55,55,55,56,55,57,56,48,56,49,56,50,56,51,56,52,56,53,56,54,56,55,56,56,56,57,57,48,57,49,57,50,57,51,57,52,57,53,57,54,57,55,57,56,57,57])) (2 * ((z.val:Nat):Int))=some (48+((z.val / 10:Nat):Int)):=by decide +kernel
theorem Qfc {α:Type} {F:Int->Int->Option α} {Q:α->Prop} {z i:Nat} {a:List Int} {e1 e0 p1 U:Int} (hz:z < 100) (J:e1=2 * (z:Int)+1) (I:e0=2 * (z:Int)) (O:p1=((i+1:Nat):Int)) (M:U=(i:Int)) (hl:i+1 < a.length)
  (h:Runs (F (48+((z % 10:Nat):Int)) (48+((z / 10:Nat):Int))) Q) :
  Runs (EI (idx (α:=Int) (bl (ByteArray.mk #[48,48,48,49,48,50,48,51,48,52,48,53,48,54,48,55,48,56,48,57,49,48,49,49,49,50,49,51,49,52,49,53,49,54,49,55,49,56,49,57,50,48,50,49,50,50,50,51,50,52,50,53,50,54,50,55,50,56,50,57,51,48,51,49,51,50,51,51,51,52,51,53,51,54,51,55,51,56,51,57,52,48,52,49,52,50,52,51,52,52,52,53,52,54,52,55,52,56,52,57,53,48,53,49,53,50,53,51,53,52,53,53,53,54,53,55,53,56,53,57,54,48,54,49,54,50,54,51,54,52,54,53,54,54,54,55,54,56,54,57,55,48,55,49,55,50,55,51,55,52,55,53,55,54,55,55,55,56,55,57,56,48,56,49,56,50,56,51,56,52,56,53,56,54,56,55,56,56,56,57,57,48,57,49,57,50,57,51,57,52,57,53,57,54,57,55,57,56,57,57])) e1) fun G=>EI (idx (α:=Int) (bl (ByteArray.mk #[48,48,48,49,48,50,48,51,48,52,48,53,48,54,48,55,48,56,48,57,49,48,49,49,49,50,49,51,49,52,49,53,49,54,49,55,49,56,49,57,50,48,50,49,50,50,50,51,50,52,50,53,50,54,50,55,50,56,50,57,51,48,51,49,51,50,51,51,51,52,51,53,51,54,51,55,51,56,51,57,52,48,52,49,52,50,52,51,52,52,52,53,52,54,52,55,52,56,52,57,53,48,53,49,53,50,53,51,53,52,53,53,53,54,53,55,53,56,53,57,54,48,54,49,54,50,54,51,54,52,54,53,54,54,54,55,54,56,54,57,55,48,55,49,55,50,55,51,55,52,55,53,55,54,55,55,55,56,55,57,56,48,56,49,56,50,56,51,56,52,56,53,56,54,56,55,56,56,56,57,57,48,57,49,57,50,57,51,57,52,57,53,57,54,57,55,57,56,57,57])) e0) fun H=>EI (idx (α:=Int) a p1) fun _=>EI (idx (α:=Int) (a.set p1.toNat G) U) fun _=>F G H) Q:=by
 subst J I O M;obtain ⟨t1,V⟩:=Q4o ⟨z,hz⟩;exact Eb t1 (Eb V (Eb (Xo hl) (Eb (Xo (by simp;omega)) h)))
theorem Qfe (i:Nat) (tail:List Int) (G H:Int):((Eg (i+2) (0:Int)++tail).set (i+1) H).set i G=Eg i 0++(G::H::tail):=by
 rw [show Eg (i+2) (0:Int)=Eg i 0++[0,0] by rw [<-List.replicate_append_replicate];rfl,EK];rw [ER _ _ (by simp),ER _ _ (by simp)];simp
theorem Qek {j U u:Nat} (h:u=U / 10 ^ j):Yx (j+2) U=(48+((u % 100 / 10:Nat):Int))::(48+((u % 100 % 10:Nat):Int))::Yx j U/\u / 100=U / 10 ^ (j+2):=by
 have e:U / 10 ^ (j+1)=u / 10:=by rw [h,En,<-Nat.pow_succ]
 refine ⟨?_,by rw [h,En,Eu]⟩;rw [Qcu,Qcu,e,<-h];rw [show u % 100 / 10=u / 10 % 10 by omega,show u % 100 % 10=u % 10 by omega]
end Go.Gw

end
section
set_option maxRecDepth 8192
namespace Go.Gw
open Go
attribute [local irreducible] loop
theorem QKo {U u j:Nat} (h:u=U / 10 ^ j):u / 100000000=U / 10 ^ (j+8):=by
 rw [h,En,Eu]
theorem Q0j (m:Nat) (tail:List Int) (G H I J M O U V:Int):((((((((Eg (m+8) (0:Int)++tail).set (m+7) G).set (m+6) H).set (m+5) I).set (m+4) J).set (m+3) M).set (m+2) O).set (m+1) U).set m V=Eg m 0++(V::U::O::M::J::I::H::G::tail):=by
 rw [Qfe (m+6) tail H G,Qfe (m+4) _ J I,Qfe (m+2) _ O M,Qfe m _ V U]
theorem Q0i (m:Nat) (tail:List Int) (G H I J:Int):((((Eg (m+4) (0:Int)++tail).set (m+3) G).set (m+2) H).set (m+1) I).set m J=Eg m 0++(J::I::H::G::tail):=by
 rw [Qfe (m+2) tail H G,Qfe m _ J I]
theorem Z9 {l:List Int} {i j:Nat} {x:Int} (h:j < l.length):j < (l.set i x).length:=by simpa using h
theorem Qbv {m k:Nat} {l:List Int} (h:k < m):k < (Eg m (0:Int)++l).length:=by simp;omega
theorem QNo {N U:Nat} (hN:N<=22) (hU:U < 2 ^ 64):Runs (loop Qsa (Eg N (0:Int),(U:Int),((Eg N (0:Int)).length:Int))) (fun s=>∃ i j:Nat,s=((Eg i (0:Int)++Yx j U:List Int),((U / 10 ^ j:Nat):Int),(i:Int))/\i+j=N/\i < 8):=by
 refine EA (fun s=>∃ i j:Nat,s=((Eg i (0:Int)++Yx j U:List Int),((U / 10 ^ j:Nat):Int),(i:Int))/\i+j=N) (fun s=>s.2.2.toNat) ⟨N,0,by rw [List.length_replicate,Nat.pow_zero,Nat.div_one];exact Prod.ext (List.append_nil _).symm rfl,by omega⟩ ?_;rintro _ ⟨i,j,rfl,hij⟩;have hu:U / 10 ^ j<=U:=Nat.div_le_self _ _;obtain ⟨u,G⟩:∃ u,u=U / 10 ^ j:=⟨_,rfl⟩;rw [<-G];rw [<-G] at hu;unfold Qsa;by_cases hi:8<=i
 ·obtain ⟨m,rfl⟩:∃ m,i=m+8:=⟨i - 8,by omega⟩;have hw:∀ k:Nat,k<=8->w64 (((m+8:Nat):Int) - (k:Int))=((m+8 - k:Nat):Int):=fun k hk=>by rw [XS (by omega)];omega
  obtain ⟨M,b1⟩:=Qek G;obtain ⟨O,b2⟩:=Qek b1;obtain ⟨V,b3⟩:=Qek b2;obtain ⟨Y,b4⟩:=Qek b3;refine Eh (decide_eq_true (by omega)) ?_;refine Qfc (z:=u % 100) (i:=m+6) (Er _ (by decide)) ?_ ?_ (hw 1 (by decide)) (hw 2 (by decide)) (Qbv (by omega)) ?_
  ·simp (disch:=omega) only [Ed,Ec,IntKind.wrap_u32];omega
  ·simp (disch:=omega) only [Ed,Ec,IntKind.wrap_u32];omega
  refine Qfc (z:=u / 100 % 100) (i:=m+4) (Er _ (by decide)) ?_ ?_ (hw 3 (by decide)) (hw 4 (by decide)) (Z9 (Z9 (Qbv (by omega)))) ?_
  ·simp (disch:=omega) only [Ed,Ec,IntKind.wrap_u32];omega
  ·simp (disch:=omega) only [Ed,Ec,IntKind.wrap_u32];omega
  refine Qfc (z:=u / 100 / 100 % 100) (i:=m+2) (Er _ (by decide)) ?_ ?_ (hw 5 (by decide)) (hw 6 (by decide)) (Z9 (Z9 (Z9 (Z9 (Qbv (by omega)))))) ?_
  ·simp (disch:=omega) only [Ed,Ec,IntKind.wrap_u32];omega
  ·simp (disch:=omega) only [Ed,Ec,IntKind.wrap_u32];omega
  refine Qfc (z:=u / 100 / 100 / 100 % 100) (i:=m) (Er _ (by decide)) ?_ ?_ (hw 7 (by decide)) (hw 8 (by decide)) (Z9 (Z9 (Z9 (Z9 (Z9 (Z9 (Qbv (by omega)))))))) ?_
  ·simp (disch:=omega) only [Ed,Ec,IntKind.wrap_u32];omega
  ·simp (disch:=omega) only [Ed,Ec,IntKind.wrap_u32];omega
  refine Ea ⟨⟨m,j+8,?_,by omega⟩,?_⟩
  ·have e1:=hw 1 (by decide);have e2:=hw 2 (by decide);have e3:=hw 3 (by decide);have e4:=hw 4 (by decide);have e5:=hw 5 (by decide);have H:=hw 6 (by decide);have I:=hw 7 (by decide);have J:=hw 8 (by decide);refine Prod.ext ?_ (Prod.ext ?_ ?_)
   ·dsimp only;rw [show (((1:Nat):Int))=1 from rfl] at e1;rw [show (((2:Nat):Int))=2 from rfl] at e2;rw [show (((3:Nat):Int))=3 from rfl] at e3;rw [show (((4:Nat):Int))=4 from rfl] at e4;rw [show (((5:Nat):Int))=5 from rfl] at e5;rw [show (((6:Nat):Int))=6 from rfl] at H;rw [show (((7:Nat):Int))=7 from rfl] at I;rw [show (((8:Nat):Int))=8 from rfl] at J;rw [e1,e2,e3,e4,e5,H,I,J];simp only [Ej];exact (Q0j m (Yx j U) _ _ _ _ _ _ _ _).trans (by rw [show j+8=j+2+2+2+2 from rfl,Y,V,O,M])
   ·show IntKind.wrap .u64 (Ep (u:Int) 100000000)=_;rw [<-QKo G,show Ep (u:Int) 100000000=((u / 100000000:Nat):Int) from rfl,Go.IntWalk.u64_in _ (by omega)]
   ·show w64 (((m+8:Nat):Int) - 8)=(m:Int);rw [XS (by omega)];omega
  ·show (w64 (((m+8:Nat):Int) - ((8:Nat):Int))).toNat < (((m+8:Nat):Int)).toNat;rw [hw 8 (by decide),Ej,Ej];omega
 ·refine Ek (decide_eq_false (by omega)) (Ea ⟨i,j,?_,hij,by omega⟩);rw [G];rfl
theorem QHd {U N i j u:Nat} (h:U < 10 ^ N) (hij:i+j=N) (hu:u=U / 10 ^ j):u < 10 ^ i:=by
 rw [hu];refine Nat.div_lt_of_lt_mul ?_;rw [<-Eu,ED j i,hij];exact h
theorem QNl {N U:Nat} (hN:N<=22) (hU:U < 2 ^ 64) (H:U < 10 ^ N):Qih (Eg N (0:Int)) (U:Int)=some (Yx N U:List Int):=by
  refine EP ?_;unfold Qih;refine Ee (QNo hN hU) ?_;rintro _ ⟨i,j,rfl,hij,hi⟩;obtain ⟨u,G⟩:∃ u,u=U / 10 ^ j:=⟨_,rfl⟩;rw [<-G];have hu:=QHd H hij G;have O:u < 10 ^ 7:=Eo hu (EC (by decide) (by omega));refine Ee (R:=fun s=>∃ i j u:Nat,s=((Eg i (0:Int)++Yx j U:List Int),(i:Int),(u:Int))/\i+j=N/\i < 4/\u=U / 10 ^ j) (Runs.bif (fun hb=>?_) (fun hb=>?_)) ?_
  · obtain ⟨m,rfl⟩:∃ m,i=m+4:=⟨i - 4,by have:=of_decide_eq_true hb;omega⟩;have hw:∀ k:Nat,k<=4->w64 (((m+4:Nat):Int) - (k:Int))=((m+4 - k:Nat):Int):=fun k hk=>by rw [XS (by omega)];omega
    obtain ⟨I,J⟩:=Qek G;obtain ⟨V,Y⟩:=Qek J;refine Qfc (z:=u % 100) (i:=m+2) (Er _ (by decide)) ?_ ?_ (hw 1 (by decide)) (hw 2 (by decide)) (Qbv (by omega)) ?_
    · simp (disch:=omega) only [Ed,Ec,IntKind.wrap_u32];omega
    · simp (disch:=omega) only [Ed,Ec,IntKind.wrap_u32];omega
    refine Qfc (z:=u / 100 % 100) (i:=m) (Er _ (by decide)) ?_ ?_ (hw 3 (by decide)) (hw 4 (by decide)) (Z9 (Z9 (Qbv (by omega)))) ?_
    · simp (disch:=omega) only [Ed,Ec,IntKind.wrap_u32];omega
    · simp (disch:=omega) only [Ed,Ec,IntKind.wrap_u32];omega
    refine Ea ⟨m,j+4,u / 10000,?_,by omega,by omega,?_⟩
    · have e1:=hw 1 (by decide);have e2:=hw 2 (by decide);have e3:=hw 3 (by decide);have e4:=hw 4 (by decide);refine Prod.ext ?_ (Prod.ext ?_ ?_)
      · dsimp only;rw [show (((1:Nat):Int))=1 from rfl] at e1;rw [show (((2:Nat):Int))=2 from rfl] at e2;rw [show (((3:Nat):Int))=3 from rfl] at e3;rw [show (((4:Nat):Int))=4 from rfl] at e4;rw [e1,e2,e3,e4];simp only [Ej];exact (Q0i m (Yx j U) _ _ _ _).trans (by rw [show j+4=j+2+2 from rfl,V,I])
      · show w64 (((m+4:Nat):Int) - 4)=(m:Int);rw [XS (by omega)];omega
      · show IntKind.wrap .u32 (Ep (IntKind.wrap .u32 (u:Int)) 10000)=((u / 10000:Nat):Int);simp (disch:=omega) only [Ed,Ec,IntKind.wrap_u32];omega
    · rw [show u / 10000=u / 100 / 100 by omega,Y]
  · refine Ea ⟨i,j,u,?_,hij,by have:=of_decide_eq_false hb;omega,G⟩;rw [Go.IntWalk.u32_in _ (by omega)];rfl
  clear hu G O hi hij u i j;rintro _ ⟨i,j,u,rfl,hij,hi,G⟩;have hu:=QHd H hij G;refine Runs.bif (fun hb=>?_) (fun hb=>Runs.bif (fun hb'=>?_) (fun hb'=>?_))
  · obtain ⟨m,rfl⟩:∃ m,i=m+2:=⟨i - 2,by have:=of_decide_eq_true hb;omega⟩;have hm:m=0\/m=1:=by omega
    have aa:u < 1000:=by rcases hm with rfl | rfl<;>omega
    have hw:∀ k:Nat,k<=2->w64 (((m+2:Nat):Int) - (k:Int))=((m+2 - k:Nat):Int):=fun k hk=>by rw [XS (by omega)];omega
    obtain ⟨I,J⟩:=Qek G;refine Qfc (z:=u % 100) (i:=m) (Er _ (by decide)) ?_ ?_ (hw 1 (by decide)) (hw 2 (by decide)) (Qbv (by omega)) ?_
    · simp (disch:=omega) only [Ed,Ec,IntKind.wrap_u32];omega
    · simp (disch:=omega) only [Ed,Ec,IntKind.wrap_u32];omega
    have e1:=hw 1 (by decide);have e2:=hw 2 (by decide);rw [show (((1:Nat):Int))=1 from rfl] at e1;rw [show (((2:Nat):Int))=2 from rfl] at e2;rw [e1,e2];have hs:(((Eg (m+2) (0:Int)++Yx j U).set (m+1) (48+((u % 100 % 10:Nat):Int))).set m (48+((u % 100 / 10:Nat):Int)))=Eg m 0++Yx (j+2) U:=by rw [Qfe,I]
    rcases hm with rfl | rfl
    · refine Ek rfl (Ea ?_);refine hs.trans ?_;rw [<-hij,Nat.zero_add,ED];rfl
    · refine Eh rfl (Ee (R:=fun _=>True) ⟨_,Xo (k:=0) (Z9 (Z9 (Qbv (by omega)))),trivial⟩ (fun _ _=>Ea ?_));have hv:IntKind.wrap .u8 (IntKind.wrap .u32 (48+IntKind.wrap .u32 (Ep (u:Int) 100)))=48+((u / 100:Nat):Int):=by
        simp (disch:=omega) only [Ec,IntKind.wrap_u32,IntKind.wrap_u8];omega
      rw [hv];refine (congrArg (fun l:List Int=>l.set 0 _) hs).trans ?_;rw [<-hij,show 1+2+j=j+2+1 by omega,Qcu (j+2) U,<-J,Nat.mod_eq_of_lt (show u / 100 < 10 by omega)];rfl
  · obtain rfl:i=1:=by have:=of_decide_eq_false hb;have:=of_decide_eq_true hb';omega
    refine Ee (R:=fun _=>True) ⟨_,Xo (k:=0) (Qbv (by omega)),trivial⟩ (fun _ _=>Ea ?_);have M:u < 10:=by simpa using hu
    have hv:IntKind.wrap .u8 (IntKind.wrap .u32 (48+(u:Int)))=48+(u:Int):=by
      simp only [IntKind.wrap_u32,IntKind.wrap_u8];omega
    rw [hv];show (48+(u:Int))::Yx j U=Yx N U;rw [<-hij,ED 1 j,Qcu,<-G,Nat.mod_eq_of_lt M]
  · obtain rfl:i=0:=by have:=of_decide_eq_false hb';omega
    refine Ea ?_;show Yx j U=Yx N U;rw [<-hij,Nat.zero_add]
/-! ### The text -/
theorem Q2b:∀ n:Fin 100,Qmh ((n.val:Nat):Int)=some (YS (Yx (if n.val < 10 then 1 else 2) n.val)):=by decide +kernel
theorem QKm (n:Nat):Yw (n:Int)=YS (Y2 n):=by
 unfold Yw Ya;rw [if_neg (by omega),Int.natAbs_natCast]
theorem Q2a {n:Nat} (h:n < 100):Qmh (n:Int)=some (Yw (n:Int)):=by
 have G:=Q2b ⟨n,h⟩;have H:nd n=if n < 10 then 1 else 2:=by
  by_cases G:n < 10
  ·rw [if_pos G,Qev (k:=1) (by decide) (by omega) (.inl rfl)]
  ·rw [if_neg G,Qev (k:=2) (by decide) (by omega) (.inr (by omega))]
 rw [QKm,Y2,H];exact G
theorem QIs {n:Int} (h:-9223372036854775808<=n/\n<=9223372036854775807):Qcz n=((n.natAbs:Nat):Int):=by
 unfold Qcz;simp only [IntKind.wrap_u64];by_cases G:n < 0
 ·rw [decide_eq_true G,cond_true];omega
 ·rw [decide_eq_false G,cond_false];omega
theorem Qmj {n:Int} (h:-9223372036854775808<=n/\n<=9223372036854775807):JJ n=some (Yw n):=by
  have key:Qma n 10=some (Yw n):=by
    unfold Qma;rw [decide_eq_true rfl,cond_true];by_cases H:0<=n/\n < 100
    · rw [decide_eq_true H.1,decide_eq_true H.2];obtain ⟨m,rfl⟩:∃ m:Nat,n=(m:Int):=⟨n.toNat,by omega⟩;exact Q2a (by omega)
    · have hc : (decide (0 <= n) && decide (n < 100)) = false := by
        rw [Bool.and_eq_false_iff,decide_eq_false_iff_not,decide_eq_false_iff_not];omega
      rw [hc,cond_false,QIs h];have I:1<=nd n.natAbs:=(Qeu _).1;have J:nd n.natAbs<=19:=Qis (by decide) (by omega);rw [QWq (by omega) (by omega),Option.bind_some];rw [decide_eq_true (show (1:Int)<=((nd n.natAbs:Nat):Int) by omega),decide_eq_true (show ((nd n.natAbs:Nat):Int)<=22 by omega)];show (EI (Qih (Eg ((nd n.natAbs:Nat):Int).toNat (0:Int)) _) _)=_;rw [Ej,QNl (by omega) (by omega) (Qeu _).2.1];show some (YS (bif decide (n < 0) then ((45:Int)::Yx (nd n.natAbs) n.natAbs:List Int) else Yx (nd n.natAbs) n.natAbs))=_;unfold Yw Ya Y2;by_cases G:n < 0
      · rw [decide_eq_true G,if_pos G];rfl
      · rw [decide_eq_false G,if_neg G];rfl
  unfold JJ Qrz;rw [key];rfl
end Go.Gw

end
section
set_option maxRecDepth 4096
namespace Go.Gw
open Go
attribute [local irreducible] loop
def Yh (c:Int):List Int->List (List Int)
 | []=>[[]]
 | x::l=>if x=c then []::Yh c l else
  match Yh c l with
  | h::t=>(x::h)::t
  | []=>[[x]]
theorem Qjx (c:Int):∀ l:List Int,∃ h t,Yh c l=h::t
 | []=>⟨[],[],rfl⟩
 | x::l=>by
  obtain ⟨h,t,e⟩:=Qjx c l;unfold Yh;by_cases hx:x=c
  ·rw [if_pos hx];exact ⟨_,_,rfl⟩
  ·rw [if_neg hx,e];exact ⟨_,_,rfl⟩
theorem Qcb {c:Int}:∀ {a:List Int},c∉a->Yh c a=[a]
 | [],_=>rfl
 | x::a,h=>by
  rw [Yh,if_neg (fun e=>h (by simp [e])),Qcb fun q=>h (ES _ q)]
theorem Qcc {c:Int}:∀ {a b:List Int},c∉a->Yh c (a++c::b)=a::Yh c b
 | [],b,_=>by rw [List.nil_append,Yh,if_pos rfl]
 | x::a,b,h=>by
  rw [List.cons_append,Yh,if_neg (fun e=>h (by simp [e])),Qcc fun q=>h (ES _ q)]
theorem Qvb (c:Int):∀ l:List Int,(Yh c l).length=l.count c+1
 | []=>rfl
 | x::l=>by
  have ih:=Qvb c l;obtain ⟨h,t,e⟩:=Qjx c l;unfold Yh;by_cases hx:x=c
  ·rw [if_pos hx,EM,ih,hx,Es]
  ·rw [if_neg hx,EB hx,<-ih,e];rfl
/-! ### Parts of a text -/
theorem J4 {s:ByteArray} {k:Nat} (h:k < (QB s).length):idx (α:=Int) (bl s) (k:Int)=some (QB s)[k]:=Xo (xs:=QB s) h
theorem QJs (s:ByteArray) (a b:Nat):QB (s.extract a b)=((QB s).take b).drop a:=by
 show List.map _ (s.extract a b).data.toList=List.drop a (List.take b (List.map _ s.data.toList));rw [<-List.map_take,<-List.map_drop];congr 1;rw [ByteArray.data_extract,Array.toList_extract];simp [List.extract,List.drop_take]
theorem Qdm {s:ByteArray} {a b:Nat} (G:a<=b) (H:b<=s.size):∃ t,ZQ s (a:Int) (b:Int)=some t/\QB t=((QB s).take b).drop a:=by
 refine ⟨s.extract a b,?_,QJs s a b⟩;unfold ZQ;rw [if_pos ⟨by omega,by omega,by omega⟩,Ej,Ej]
theorem QKj {s:ByteArray} {c:Int} (hs:s.size<=100000):Runs (Qbo s c) fun r=>r.map QB=Yh c (QB s):=by
  have hlen:=YR s;unfold Qbo;refine Ee (R:=fun x=>∃ f:Nat,x.2=(f:Int)/\f<=s.size/\c∉(QB s).drop f/\Yh c (QB s)=x.1.map QB++Yh c ((QB s).drop f)/\x.1.length<=s.size) (EA (fun x=>∃ f i:Nat,x.2=((f:Int),(i:Int))/\f<=i/\i<=s.size/\c∉((QB s).take i).drop f/\Yh c (QB s)=x.1.map QB++Yh c ((QB s).drop f)/\x.1.length<=i) (fun x=>s.size - x.2.2.toNat) ⟨0,0,rfl,El _,Ew _,by simp,by simp,by simp⟩ ?_) ?_
  · rintro ⟨out,_⟩ ⟨f,i,rfl,M,O,G,H,U⟩;unfold Qxk;dsimp only at H U;have hm:s.size - (w64 ((i:Int)+1)).toNat < s.size - ((i:Nat):Int).toNat↔i < s.size:=by rw [Xk i (by omega)];simp;omega
    by_cases hi:i < s.size
    · have hg:i < (QB s).length:=by omega
      have ht:(QB s).take (i+1)=(QB s).take i++[(QB s)[i]]:=(Eq_ hg).symm;refine Eh (XT hi) (Eb (J4 hg) (Runs.bif (fun hb=>?_) (fun hb=>?_)))
      · have hc:=of_decide_eq_true hb;obtain ⟨t,I,J⟩:=Qdm (s:=s) M (by omega);refine Eb I (Eb (ZK (by simp;omega)) (Ea ⟨⟨i+1,i+1,?_,El _,hi,?_,?_,?_⟩,hm.2 hi⟩))
        · rw [Xk i (by omega)]
        · rw [List.drop_of_length_le (by rw [Et];omega)];simp
        · have e : (QB s).drop f = ((QB s).take i).drop f ++ c :: (QB s).drop (i + 1) := by
            rw [<-hc,<-EL hg,<-EG (by simp;omega),List.take_append_drop]
          rw [H,e,Qcc G];show _=(out++[t]).map QB++_;rw [Ev,Ex,J,EK];rfl
        · show (out++[t]).length<=_;simp;omega
      · have hc:=of_decide_eq_false hb;refine Ea ⟨⟨f,i+1,?_,by omega,hi,?_,H,by show out.length<=_;omega⟩,hm.2 hi⟩
        · rw [Xk i (by omega)]
        · rw [ht,EG (by simp;omega)];intro hq;rcases List.mem_append.1 hq with hq | hq
          · exact G hq
          · simp at hq;exact hc hq.symm
    · obtain rfl:i=s.size:=by omega
      refine Ek (XR _) (Ea ⟨f,rfl,M,?_,H,U⟩);rwa [Em (by omega)] at G
  · rintro ⟨out,_⟩ ⟨f,rfl,M,O,G,H⟩;dsimp only at G H;obtain ⟨t,I,J⟩:=Qdm (s:=s) M (El _);refine Eb I (Eb (ZK (by simp;omega)) (Ea ?_));rw [G,Qcb O,Ev,Ex,J,Em (by omega)];rfl
/-! ### The library -/
theorem Qhf {x:UInt8} {c:Nat} (h:c < 256):((x.toNat:Nat):Int)=(c:Int)↔x=c.toUInt8:=by
 constructor
 ·intro e;exact UInt8.toNat.inj (by rw [show c.toUInt8.toNat=c % 256 from rfl];omega)
 ·intro e;rw [e,show c.toUInt8.toNat=c % 256 from rfl];omega
theorem QKd {s:ByteArray} {c:Nat} (h:c < 256):Qli s (c:Int)=(((QB s).count (c:Int):Nat):Int):=by
 unfold Qli;rw [Ej,Lib.foldl_data,Lib.count_foldl];unfold Lib.countByte QB;have key:∀ l:List UInt8,(l.map fun b:UInt8=>((b.toNat:Nat):Int)).count (c:Int)=l.count c.toUInt8:=by
  intro l
  induction l with
  | nil=>rfl
  | cons x l ih =>
   rw [Ex];by_cases hx:x=c.toUInt8
   ·rw [(Qhf h).2 hx,Es,ih,hx,Es]
   ·rw [EB (fun e=>hx ((Qhf h).1 e)),EB hx,ih]
 rw [key];omega
theorem Qzm (u:UInt8):∀ l:List UInt8,(u∉l/\Lib.indexByte l u=-1)\/∃ a b,l=a++u::b/\u∉a/\Lib.indexByte l u=(a.length:Int)
 | []=>.inl ⟨by simp,rfl⟩
 | x::l=>by
  by_cases hx:x=u
  ·exact .inr ⟨[],l,by rw [hx];rfl,by simp,by simp [Lib.indexByte,hx]⟩
  ·rcases Qzm u l with ⟨G,H⟩ | ⟨a,b,G,H,I⟩
   ·refine .inl ⟨fun h=>?_,by simp [Lib.indexByte,hx,H]⟩;rcases List.mem_cons.1 h with h | h
    ·exact hx h.symm
    ·exact G h
   ·refine .inr ⟨x::a,b,by rw [G];rfl,fun h=>?_,?_⟩
    ·rcases List.mem_cons.1 h with h | h
     ·exact hx h.symm
     ·exact H h
    ·have hn:¬ ((a.length:Int)=-1):=by omega
     simp [Lib.indexByte,hx,I,hn]
theorem Qsd {s:ByteArray} {c:Nat} (h:c < 256):((c:Int)∉QB s/\ixB s (c:Int)=-1)\/∃ a b,QB s=a++(c:Int)::b/\(c:Int)∉a/\ixB s (c:Int)=(a.length:Int):=by
 have e:ixB s (c:Int)=Lib.indexByte s.data.toList c.toUInt8:=by
  rw [<-Lib.firstIdx_eq];rfl
 have hm:∀ l:List UInt8,c.toUInt8∉l->(c:Int)∉l.map fun b:UInt8=>((b.toNat:Nat):Int):=fun l hl hq=>by
  obtain ⟨x,hx,I⟩:=List.mem_map.1 hq;rw [(Qhf h).1 I] at hx;exact hl hx
 rw [e];rcases Qzm c.toUInt8 s.data.toList with ⟨G,H⟩ | ⟨a,b,G,H,J⟩
 ·exact .inl ⟨hm _ G,H⟩
 ·refine .inr ⟨a.map fun b:UInt8=>((b.toNat:Nat):Int),b.map fun b:UInt8=>((b.toNat:Nat):Int),?_,hm _ H,by rw [J,List.length_map]⟩;unfold QB;rw [G,Ev,Ex,(Qhf h).2 rfl]
def ZE (c:Nat):ByteArray:=ByteArray.mk #[c.toUInt8]
theorem Qzn {s:ByteArray} {c:Nat} (h:c < 256):Qjz s (ZE c)=some (ixB s (c:Int)):=by
  have hz:(ZE c).size=1:=rfl;have hb:QB (ZE c)=[(c:Int)]:=by
    show [((c.toUInt8.toNat:Nat):Int)]=_;rw [(Qhf h).2 rfl]
  have key:Qep s (ZE c)=some (ixB s (c:Int)):=by
    refine EP ?_;unfold Qep;rw [hz];refine Runs.bif (fun hq=>?_) (fun hq=>Eh rfl ?_)
    · have hs:ZE c=s:=by simpa using hq
      refine Ea ?_;rcases Qsd (s:=s) h with ⟨G,_⟩ | ⟨a,b,G,I,H⟩
      · rw [<-hs,hb] at G;simp at G
      · rw [H];rw [<-hs,hb] at G;cases a with
        | nil=>rfl
        | cons x a=>simp at G
    · have hi : idx (α := Int) (bl (ZE c)) 0 = some (c : Int) := by
        have:=J4 (s:=ZE c) (k:=0) (by rw [hb];exact Nat.one_pos);rw [show ((0:Nat):Int)=0 from rfl] at this;rw [this];simp [hb]
      exact Eb hi (Eb (b:=ixB s (c:Int)) rfl (Ea rfl))
  unfold Qjz;rw [key];rfl
theorem take_set {α:Type} (l:List α) (j:Nat) (x:α) (h:j < l.length):(l.set j x).take (j+1)=l.take j++[x]:=by
 rw [<-Eq_ (by rw [EN];exact h),List.take_set_of_le (El _),List.getElem_set_self]
theorem Q2c {s:ByteArray} {c:Nat} (h:c < 256) (hs:s.size<=100000):Runs (Qff s (ZE c)) fun r=>r.map QB=Yh (c:Int) (QB s):=by
  have hz:(ZE c).size=1:=rfl;have hlen:=YR s;obtain ⟨k,hk⟩:∃ k,k=(QB s).count (c:Int):=⟨_,rfl⟩;have aa:k<=s.size:=by rw [hk,<-hlen];exact List.count_le_length
  unfold Qff;refine Runs.bind (Runs.mono (Q:=fun r=>r.map QB=Yh (c:Int) (QB s)) ?_ fun r hr=>Ea hr);unfold Qvk;refine Ek rfl (Ek (decide_eq_false fun e=>?_) (Eh rfl (Eb (b:=((k:Nat):Int)) ?_ ?_)))
  · have:=congrArg ByteArray.size e;rw [hz] at this;cases this
  · refine EP ?_;unfold Qvi;rw [hz];have hi:idx (α:=Int) (bl (ZE c)) 0=some (c:Int):=by
      have hb:QB (ZE c)=[(c:Int)]:=by
        show [((c.toUInt8.toNat:Nat):Int)]=_;rw [(Qhf h).2 rfl]
      have:=J4 (s:=ZE c) (k:=0) (by rw [hb];exact Nat.one_pos);rw [show ((0:Nat):Int)=0 from rfl] at this;rw [this];simp [hb]
    exact Ek rfl (Eh rfl (Eb hi (Ea (by rw [QKd h,hk]))))
  have hif:(if w64 ((s.size:Int)+1) < w64 ((k:Int)+1) then w64 ((s.size:Int)+1) else w64 ((k:Int)+1))=((k+1:Nat):Int):=by
    rw [Xk s.size (by omega),Xk k (by omega),if_neg (by omega)]
  rw [hif];have hmk:mk (((k+1:Nat)):Int) (ByteArray.empty:ByteArray)=some (Eg (k+1) ByteArray.empty):=by
    unfold mk;rw [if_pos (by omega),Ej]
  refine Eb hmk (Ee (R:=fun x=>x.2.1.length=k+1/\x.2.2=(k:Int)/\(QB x.1).count (c:Int)=0/\(x.2.1.take k).map QB++Yh (c:Int) (QB x.1)=Yh (c:Int) (QB s)) (EA (fun x=>∃ j:Nat,x.2.2=(j:Int)/\j<=k/\x.2.1.length=k+1/\x.1.size<=s.size/\(QB x.1).count (c:Int)=k - j/\(x.2.1.take j).map QB++Yh (c:Int) (QB x.1)=Yh (c:Int) (QB s)) (fun x=>k - x.2.2.toNat) ⟨0,rfl,Ew _,by simp,El _,by rw [hk];rfl,by simp⟩ ?_) ?_)
  · rintro ⟨r,a,_⟩ ⟨j,rfl,U,H,I,J,M⟩;dsimp only at H I J M;unfold QGh;rw [hif];have hw:w64 (((k+1:Nat):Int) - 1)=(k:Int):=by rw [XS (by omega)];omega
    rw [hw];by_cases hj:j < k
    · refine Eh (XT hj) (Eb (Qzn h) ?_);rcases Qsd (s:=r) h with ⟨G,_⟩ | ⟨x,y,G,O,V⟩
      · exfalso;rw [EJ.2 G] at J;omega
      rw [V];have hrl:x.length+y.length+1=r.size:=by rw [<-YR,G];simp;omega
      obtain ⟨p,p1,Y⟩:=Qdm (s:=r) (a:=0) (b:=x.length) (Ew _) (by omega);obtain ⟨q,q1,q2⟩:=Qdm (s:=r) (a:=x.length+1) (b:=r.size) (by omega) (El _);have e1:w64 ((x.length:Int)+0)=(x.length:Int):=by rw [XS (by omega)];omega
      have e2:w64 ((x.length:Int)+((ZE c).size:Int))=((x.length+1:Nat):Int):=by rw [hz];exact Xk x.length (by omega)
      refine Ek (decide_eq_false (by omega)) ?_;rw [e1,e2];have hq:QB q=y:=by
        rw [q2,G,Em (by simp;omega)];rw [show x.length+1=(x++[(c:Int)]).length by simp,show x++(c:Int)::y=(x++[(c:Int)])++y by simp];exact List.drop_left
      have hp:QB p=x:=by rw [Y,G];simp
      refine Eb p1 (Eb (Xo (by omega)) (Eb q1 (Ea ⟨⟨j+1,Xk j (by omega),by omega,?_,?_,?_,?_⟩,?_⟩)))
      · show (a.set _ p).length=_;rw [EN];exact H
      · show q.size<=_;have:=YR q;rw [hq] at this;omega
      · show (QB q).count _=_;rw [G,List.count_append,Es,EJ.2 O] at J;rw [hq];omega
      · show ((a.set ((j:Nat):Int).toNat p).take (j+1)).map QB++Yh (c:Int) (QB q)=_;rw [Ej,take_set _ _ _ (by omega),Ev,Ex,EK,hp,hq];rw [<-M,G,Qcc O];rfl
      · show k - (w64 ((j:Int)+1)).toNat < k - ((j:Nat):Int).toNat;rw [Xk j (by omega)];simp;omega
    · obtain rfl:j=k:=by omega
      refine Ek (XR _) (Ea ⟨H,rfl,by rw [J];omega,M⟩)
  · rintro ⟨r,a,_⟩ ⟨U,rfl,H,I⟩;dsimp only at U H I;have hc:cut (a.set ((k:Nat):Int).toNat r) 0 (w64 ((k:Int)+1))=some (a.take k++[r]):=by
      rw [Xk k (by omega),Ej];unfold cut;rw [if_pos (by rw [EN];omega),Ej,take_set _ _ _ (by omega)];rfl
    refine Eb (Xo (by omega)) (Eb hc (Ea ?_));rw [Ev,<-I,Qcb (EJ.1 H)];rfl
end Go.Gw

end
section
set_option maxRecDepth 4096
namespace Go.Gw
open Go
attribute [local irreducible] loop
def Jt (n:Int):Nat:=if n < 0 then 1 else 0
theorem Qrh (n:Int):(Ya n).length=nd n.natAbs+Jt n:=by
 unfold Ya Y2 Jt;split
 ·rw [EM,Qel]
 ·rw [Qel];rfl
theorem Qlj {n c:Int} {t:List Int} (h:c::t=Ya n):(c=45/\n < 0/\t=Y2 n.natAbs)\/(c≠45/\0<=n/\c::t=Y2 n.natAbs/\48<=c/\c<=57):=by
 unfold Ya at h;split at h
 ·obtain ⟨G,H⟩:=EO.inj h;exact .inl ⟨G,by assumption,H⟩
 ·obtain ⟨x,l,hx,I,J,_⟩:=Qct n.natAbs;have h':=h;rw [hx] at h;have:=(EO.inj h).1;exact .inr ⟨by omega,by omega,h',by omega,by omega⟩
def QId (l:List Int) (d:Nat) (r:Int×Bool):Prop :=
 (∃ n,r=(n,true)/\l=Ya n/\l.length<=d+Jt n)\/(r=(0,false)/\∀ n,l=Ya n->d+Jt n < l.length)
theorem Qyo {D:List Int} {k:Nat} (hk:k < D.length):val (D.take (k+1))=val (D.take k) * 10+(D[k] - 48):=by
 rw [<-Eq_ hk,Qpl]
theorem Qkj {D:List Int} (hD:∀ y∈D,48<=y/\y<=57) (h:D.length<=18):0<=val D/\val D < 1000000000000000000:=by
 obtain ⟨G,H⟩:=Qpk _ D rfl hD;have:=EC (show 0 < 10 by decide) h;omega
theorem QWs {s:ByteArray} {d:Nat} (hd:d<=18) (hs:s.size<=100000):Runs (Qlb s (d:Int)) (QId (QB s) d):=by
  have hlen:=YR s;unfold Qlb;cases hl:QB s with
  | nil =>
    have h0:s.size=0:=by rw [<-hlen,hl];rfl
    rw [h0];refine Eb (b:=(0:Int)) rfl (Ee (R:=fun x=>x=0) (Ek rfl (Ea rfl)) ?_);rintro _ rfl;refine Eb (b:=(0:Int)) rfl (Eh rfl (Ea (.inr ⟨rfl,fun n hn=>?_⟩)));obtain ⟨x,l,hx,_⟩:=Qct n.natAbs;unfold Ya at hn;split at hn
    · cases hn
    · rw [hx] at hn;cases hn
  | cons c t =>
    have h1:s.size=t.length+1:=by rw [<-hlen,hl];rfl
    have ab:idx (α:=Int) (bl s) 0=some c:=by
      have:=J4 (s:=s) (k:=0) (by omega);rw [show ((0:Nat):Int)=0 from rfl] at this;rw [this];simp [hl]
    have U:decide (0 < (s.size:Int))=true:=decide_eq_true (by omega);refine Ee (R:=fun x=>x=c) (Eh U ⟨_,ab,rfl⟩) ?_;intro x hx;rw [hx];clear hx x;obtain ⟨at_,D,hat,hD,hDl,hcase⟩:∃ (at_:Nat) (D:List Int),(at_=if c=45 then 1 else 0)/\(QB s).drop at_=D/\D.length+at_=s.size/\((at_=1/\c=45/\D=t)\/(at_=0/\c≠45/\D=c::t)):=by
      by_cases hc:c=45
      · exact ⟨1,t,by rw [if_pos hc],by rw [hl];rfl,by omega,.inl ⟨rfl,hc,rfl⟩⟩
      · exact ⟨0,c::t,by rw [if_neg hc],by rw [hl];rfl,by simp;omega,.inr ⟨rfl,hc,rfl⟩⟩
    refine Ee (R:=fun x=>x=(at_:Int)) ?_ ?_
    · rw [U,Bool.true_and];refine Runs.bif (fun hb=>Ea ?_) (fun hb=>Ea ?_)
      · rw [hat,if_pos (of_decide_eq_true hb)];rfl
      · rw [hat,if_neg (of_decide_eq_false hb)];rfl
    rintro _ rfl;have ah:at_<=1:=by rw [hat];split<;>omega
    have hw:w64 ((s.size:Int) - (at_:Int))=(D.length:Int):=by rw [XS (by omega)];omega
    rw [hw]
    -- for each n whose text this is
    have htext:∀ n,c::t=Ya n->Jt n=at_/\D=Y2 n.natAbs:=fun n hn=>by
      rcases Qlj hn with ⟨e1,e2,e3⟩ | ⟨e1,e2,e3,_⟩
      · rcases hcase with ⟨H,J,I⟩ | ⟨H,J,I⟩
        · exact ⟨by unfold Jt;rw [if_pos e2,H],by rw [I,e3]⟩
        · exact absurd e1 J
      · rcases hcase with ⟨H,J,I⟩ | ⟨H,J,I⟩
        · exact absurd J e1
        · exact ⟨by unfold Jt;rw [if_neg (by omega),H],by rw [I,e3]⟩
    by_cases hA:(decide ((s.size:Int)=(at_:Int))||decide ((d:Int) < (D.length:Int)))=true
    · refine Eb (b:=(0:Int)) (by rw [hA];rfl) (Eh (by rw [hA];rfl) (Ea (.inr ⟨rfl,fun n hn=>?_⟩)));obtain ⟨V,G⟩:=htext n hn;obtain ⟨x,l,hx,_⟩:=Qct n.natAbs;rw [hx] at G;have hpos:0 < D.length:=by rw [G];simp
      rw [EE,decide_eq_true_eq,decide_eq_true_eq] at hA;rw [EM,V];rcases hA with hA | hA<;>omega
    · have hA:(decide ((s.size:Int)=(at_:Int))||decide ((d:Int) < (D.length:Int)))=false:=by simpa using hA
      have hA':=hA;rw [EF,decide_eq_false_iff_not,decide_eq_false_iff_not] at hA';have hpos:0 < D.length:=by omega
      obtain ⟨y,D',hy⟩:∃ y D',D=y::D':=by
        cases D with
        | nil=>simp at hpos
        | cons y D'=>exact ⟨y,D',rfl⟩
      have hiat:idx (α:=Int) (bl s) (at_:Int)=some y:=by
        rw [J4 (by omega)];have:(QB s).drop at_=(QB s)[at_]'(by omega)::(QB s).drop (at_+1) := EL (by omega);have O:=hy.symm.trans (hD.symm.trans this);rw [(EO.inj O).1]
      refine Eb (b:=y) (by rw [hA];exact hiat) ?_;rw [hA,Bool.false_or];by_cases hB:(decide (y=48)&&decide (1 < (s.size:Int)))=true
      · refine Eh hB (Ea (.inr ⟨rfl,fun n hn=>?_⟩));exfalso;rw [Bool.and_eq_true,decide_eq_true_eq,decide_eq_true_eq] at hB;obtain ⟨V,G⟩:=htext n hn;obtain ⟨x,l,hx,_,_,aa⟩:=Qct n.natAbs;rw [hx] at G;rw [hy] at G;obtain ⟨e1,e2⟩:=EO.inj G;by_cases M:l=[]
        · -- one digit,a nought: the number is 0,so no sign
          have hv:=Qei n.natAbs;rw [hx,M,<-e1,hB.1] at hv;have ag:n=0:=by simp [val] at hv;omega
          have:Jt n=0:=by rw [ag];rfl
          have aj:D.length=1:=by rw [hy,e2,M];rfl
          omega
        · exact aa M (by rw [<-e1];exact hB.1)
      · have hB:(decide (y=48)&&decide (1 < (s.size:Int)))=false:=by simpa using hB
        refine Ek hB (Ee (R:=fun o=>o=.inl (0,false)/\(∀ n,c::t≠Ya n)\/o=.inr (val D)/\∀ z∈D,48<=z/\z<=57) (EA (fun x=>∃ k:Nat,x=(val (D.take k),((at_+k:Nat):Int))/\k<=D.length/\∀ z∈D.take k,48<=z/\z<=57) (fun x=>s.size - x.2.toNat) ⟨0,rfl,Ew _,by simp⟩ ?_) ?_)
        · rintro _ ⟨k,rfl,hk,hz⟩;unfold Qxn;by_cases hkl:k < D.length
          · have hgk : (QB s)[at_ + k]'(by omega) = D[k] := by
              have:D[k]=((QB s).drop at_)[k]'(by rw [List.length_drop];omega) := by congr 1;exact hD.symm
              rw [this,List.getElem_drop]
            have hik:idx (α:=Int) (bl s) ((at_+k:Nat):Int)=some D[k]:=by rw [J4 (by omega),hgk]
            refine Eh (XT (by omega)) (Eb hik ?_);have hnot:(¬ (48<=D[k]/\D[k]<=57))->∀ n,c::t≠Ya n:=fun hn n e=>by
              obtain ⟨_,G⟩:=htext n e;have hm:=Ey hkl;have ae:D[k]∈Y2 n.natAbs:=G▸hm;exact hn (Qgd ae)
            refine Ee (R:=fun x=>¬ D[k] < 48->x=D[k]) (Runs.bif (fun hb=>⟨_,hik,fun _=>rfl⟩) (fun hb=>Ea fun hn=>?_)) ?_
            · simp at hb;omega
            intro x hx;refine Runs.bif (fun hb=>?_) (fun hb=>?_)
            · refine Ea (.inl ⟨rfl,hnot ?_⟩);rw [EE,decide_eq_true_eq,decide_eq_true_eq] at hb;rintro ⟨V,G⟩;have:=hx (by omega);omega
            · rw [EF,decide_eq_false_iff_not,decide_eq_false_iff_not] at hb;have:=hx hb.1;have hdig:48<=D[k]/\D[k]<=57:=by omega
              have hz':∀ z∈D.take (k+1),48<=z/\z<=57:=fun z hq=>by
                rw [<-Eq_ hkl] at hq;rcases List.mem_append.1 hq with hq | hq
                · exact hz z hq
                · rw [List.mem_singleton] at hq;rw [hq];exact hdig
              have hv:=Qkj hz (by rw [Et];omega);have hv':=Qkj hz' (by rw [Et];omega);have hdv:=Qyo hkl;refine Eb hik (Ea ⟨⟨k+1,?_,by omega,hz'⟩,?_⟩)
              · rw [Go.IntWalk.u8_in _ (by omega),XS (x:=D[k] - 48) (by omega),XS (x:=10 * val (D.take k)) (by omega),XS (by omega),Xk _ (by omega)];rw [hdv];congr 1;omega
              · show s.size - (w64 (((at_+k:Nat):Int)+1)).toNat < s.size - (((at_+k:Nat):Int)).toNat;rw [Xk _ (by omega)];simp;omega
          · obtain rfl:k=D.length:=by omega
            refine Ek ?_ (Ea (.inr ⟨?_,?_⟩))
            · rw [hDl.symm,ED];exact XR _
            · rw [Em (El _)]
            · rwa [Em (El _)] at hz
        · rintro _ (⟨rfl,hno⟩ | ⟨rfl,hz⟩)
          · exact EW (.inr ⟨rfl,fun n e=>absurd e (hno n)⟩)
          · refine EX ?_;have hv:=Qkj hz (by omega);have hlead:D'≠[]->y≠48:=fun hne e=>by
              rw [e] at hB;have:1 < s.size:=by
                have:0 < D'.length:=List.length_pos_iff.2 hne;have:D.length=D'.length+1:=by rw [hy];rfl
                omega
              simp at hB;omega
            have hdn:Y2 (val D).toNat=D:=by rw [hy];exact QKl (by rw [<-hy];exact hz) hlead
            rcases hcase with ⟨H,J,I⟩ | ⟨H,J,I⟩
            · have ai : val D ≠ 0 := fun e => by
                rw [e] at hdn;have e0:Y2 0=[48]:=by
                  unfold Y2;rw [Qev (k:=1) (by decide) (by decide) (.inl rfl)];rfl
                have hdn:[48]=D:=e0.symm.trans hdn;rw [hy] at hdn;have Y:=(EO.inj hdn).1;rw [<-Y] at hB;simp at hB;omega
              refine Eh (by rw [H];rfl) (Ea (.inl ⟨-(val D),by rw [XS (by omega)];simp,?_,?_⟩))
              · unfold Ya;rw [if_pos (by omega),show (-(val D)).natAbs=(val D).toNat by omega,hdn,J,I]
              · unfold Jt;rw [if_pos (by omega)];simp;omega
            · refine Ek (by rw [H];rfl) (Ea (.inl ⟨val D,rfl,?_,?_⟩))
              · unfold Ya;rw [if_neg (by omega),show (val D).natAbs=(val D).toNat by omega,hdn,I]
              · simp;omega
end Go.Gw

end
section
set_option maxRecDepth 4096
namespace Go.Gw
open Go
attribute [local irreducible] loop
def I64 (x:Int):Prop:=-9223372036854775808<=x/\x<=9223372036854775807
theorem Qwf (x:Int):I64 (w64 x):=by
 unfold w64 I64;rw [IntKind.wrap_i64];omega
def Qbl (e:Int):Prop:=e=0\/e=1\/e=2
theorem Qpn (x e:Int) (h:Qbl e):I64 (w64 x,e).1/\Qbl (w64 x,e).2:=⟨Qwf x,h⟩
theorem Qwa {s:ByteArray} (h:s.size<=100000):tob s=some (QB s:List Int):=by unfold tob;rw [if_pos (by omega)];rfl
theorem QXl {s:ByteArray} (hs:s.size<=100000):Runs (Qmc s 10 0) fun r=>Qbl r.2:=by
  have hlen:=YR s;unfold Qmc;refine Runs.bif (fun _=>Ea (.inr (.inr rfl))) (fun _=>Eh rfl (Eh rfl (Eh rfl (Eb (b:=(0:Int)) (by decide +kernel) (Eb (Qwa hs) ?_)))));refine Ee (R:=fun o=>(∃ a e,o=Sum.inl (a,e)/\Qbl e)\/∃ v,o=Sum.inr v) (EA (fun x=>∃ k:Nat,x.2=(k:Int)/\k<=(QB s).length) (fun x=>(QB s).length - x.2.toNat) ⟨0,rfl,Ew _⟩ ?_) ?_
  · rintro ⟨x,_⟩ ⟨k,rfl,hk⟩;unfold Qzq;by_cases hkl:k < (QB s).length
    · have hnext : ∀ y : Int, Rnd (fun x : Int × Int => ∃ k : Nat, x.2 = (k : Int) /\ k <= (QB s).length) (fun x => (QB s).length - x.2.toNat) (fun o : (Int × Int) ⊕ Int => (∃ a e, o = Sum.inl (a, e) /\ Qbl e) \/ ∃ v, o = Sum.inr v) (x, ((k : Nat) : Int)) (Sum.inl (y, w64 ((k : Int) + 1))) := fun y => by
        refine ⟨⟨k+1,Xk k (by omega),by omega⟩,?_⟩;show (QB s).length - (w64 ((k:Int)+1)).toNat < (QB s).length - ((k:Nat):Int).toNat;rw [Xk k (by omega)];simp;omega
      refine Eh (XT hkl) (Eb (Xo (xs:=QB s) hkl) (Ee (R:=fun o=>o=Sum.inl (Sum.inr (Sum.inl (0,2)))\/∃ z,o=Sum.inr z) (Ek (by simp) (Runs.bif (fun _=>Ea (.inr ⟨_,rfl⟩)) (fun _=>Eb (b:=orS .u8 (QB s)[k] 32) rfl (Ee (R:=fun _=>True) (Runs.bif (fun _=>Runs.of_eq (a:=orS .u8 (QB s)[k] 32) rfl trivial) (fun _=>Ea trivial)) fun q _=>Runs.bif (fun _=>Eb (b:=orS .u8 (QB s)[k] 32) rfl (Ea (.inr ⟨_,rfl⟩))) (fun _=>Ea (.inl rfl)))))) ?_));rintro _ (rfl | ⟨z,rfl⟩)
      · exact EW (.inl ⟨_,_,rfl,.inr (.inr rfl)⟩)
      · refine EX (Runs.bif (fun _=>Ea (.inl ⟨_,_,rfl,.inr (.inr rfl)⟩)) (fun _=>Runs.bif (fun _=>Ea (.inl ⟨_,_,rfl,.inr (.inl rfl)⟩)) (fun _=>Runs.bif (fun _=>Ea (.inl ⟨_,_,rfl,.inr (.inl rfl)⟩)) (fun _=>Ea (hnext _)))))
    · obtain rfl:k=(QB s).length:=by omega
      exact Ek (XR _) (Ea (.inr ⟨_,rfl⟩))
  · rintro _ (⟨a,e,rfl,he⟩ | ⟨v,rfl⟩)
    · exact EW he
    · exact EX (Eb (b:=default) rfl (Ek rfl (Ea (.inl rfl))))
theorem QXk {s:ByteArray} (hs:s.size<=100000):Runs (Qmb s 10 0) fun r=>I64 r.1/\Qbl r.2:=by
 have hlen:=YR s;have hz:I64 0:=⟨by decide,by decide⟩;unfold Qmb;by_cases G:s=ByteArray.mk #[]
 ·exact Eh (decide_eq_true G) (Ea ⟨hz,.inr (.inr rfl)⟩)
 have H:0 < s.size:=by
  rcases Nat.eq_zero_or_pos s.size with h | h
  ·refine absurd (Qgb ?_) G;have:QB s=[]:=EH (by omega);rw [this];rfl
  ·exact h
 obtain ⟨p,p1,I⟩:=Qdm (s:=s) (a:=1) (b:=s.size) H (El _);have hps:p.size<=s.size:=by rw [<-YR,I];simp;omega
 refine Ek (decide_eq_false G) (Eb (J4 (k:=0) (by omega)) (Ee (R:=fun x=>x.1.size<=s.size) (Runs.bif (fun _=>Eb p1 (Ea hps)) (fun _=>Runs.bif (fun _=>Eb p1 (Ea hps)) (fun _=>Ea (El _)))) ?_));rintro ⟨x,b⟩ hx;refine Ee (QXl (s:=x) (Nat.le_trans hx hs)) fun r hr=>Runs.bif (fun _=>Ea ⟨hz,hr⟩) (fun _=>Ee (R:=fun y=>y=64) (Eh rfl (Ea rfl)) ?_);rintro _ rfl;exact Eb (b:=(9223372036854775808:Int)) (by decide +kernel) (Runs.bif (fun _=>Ea (Qpn _ _ (.inr (.inl rfl)))) (fun _=>Runs.bif (fun _=>Ea (Qpn _ _ (.inr (.inl rfl)))) (fun _=>Runs.bif (fun _=>Ea (Qpn _ _ (.inl rfl))) (fun _=>Ea (Qpn _ _ (.inl rfl))))))
theorem QJg {s:ByteArray} (O:0 < s.size) (h2:s.size < 19):Runs (Qig s) fun r=>(I64 r.1/\Qbl r.2)/\∀ n,QB s=Ya n->r=(n,0):=by
 have hlen:=YR s;have hz:I64 0:=⟨by decide,by decide⟩;unfold Qig;obtain ⟨c,t,hl⟩:∃ c t,QB s=c::t:=by
  cases h:QB s with
  | nil=>rw [h] at hlen;simp at hlen;omega
  | cons c t=>exact ⟨c,t,rfl⟩
 have ht:s.size=t.length+1:=by rw [<-hlen,hl];rfl
 have G:idx (α:=Int) (bl s) 0=some c:=by
  have:=J4 (s:=s) (k:=0) (by omega);rw [show ((0:Nat):Int)=0 from rfl] at this;rw [this];simp [hl]
 obtain ⟨p,p1,U⟩:=Qdm (s:=s) (a:=1) (b:=s.size) O (El _);have hp:QB p=t:=by rw [U,Em (by omega),hl];rfl
 have hps:p.size=t.length:=by rw [<-YR,hp]
 refine Eh (by simp;omega) (Eb G (Ee (R:=fun x=>c≠45->x=c) (Runs.bif (fun _=>⟨_,G,fun _=>rfl⟩) (fun hb=>Ea fun hn=>by simp at hb;exact absurd hb hn)) ?_));intro x hx;refine Ee (R:=fun o=>o=Sum.inl (0,2)/\t=[]/\(c=45\/c=43)\/∃ q,o=Sum.inr q/\q.size<=s.size/\(((c=45\/c=43)/\QB q=t)\/(c≠45/\c≠43/\q=s))) (Runs.bif (fun hb=>Eb p1 (Runs.bif (fun J=>Ea (.inl ⟨rfl,?_,?_⟩)) (fun J=>Ea (.inr ⟨p,rfl,by omega,.inl ⟨?_,hp⟩⟩)))) (fun hb=>Ea (.inr ⟨s,rfl,El _,.inr ?_⟩))) ?_
 ·have:=of_decide_eq_true J;exact EH (by omega)
 ·rw [EE,decide_eq_true_eq,decide_eq_true_eq] at hb;rcases hb with hb | hb
  ·exact .inl hb
  ·by_cases hc:c=45
   ·exact .inl hc
   ·exact .inr ((hx hc).symm.trans hb)
 ·rw [EE,decide_eq_true_eq,decide_eq_true_eq] at hb;rcases hb with hb | hb
  ·exact .inl hb
  ·by_cases hc:c=45
   ·exact .inl hc
   ·exact .inr ((hx hc).symm.trans hb)
 ·rw [EF,decide_eq_false_iff_not,decide_eq_false_iff_not] at hb;exact ⟨hb.1,fun e=>hb.2 ((hx hb.1).trans e),rfl⟩
 rintro _ (⟨rfl,M,hc⟩ | ⟨q,rfl,hqs,hq⟩)
 ·refine EW ⟨⟨hz,.inr (.inr rfl)⟩,fun n hn=>?_⟩;exfalso;rw [hl] at hn;obtain ⟨y,l,hy,_⟩:=Qct n.natAbs;rcases Qlj hn with ⟨_,_,e3⟩ | ⟨e1,_,_,e4,_⟩
  ·rw [M,hy] at e3;cases e3
  ·rcases hc with hc | hc<;>omega
 refine EX (Eb (Qwa (by omega)) ?_);have hql:=YR q;have hdig:∀ n,QB s=Ya n->QB q=Y2 n.natAbs/\(c=45↔n < 0):=fun n hn=>by
  rw [hl] at hn;rcases Qlj hn with ⟨e1,e2,e3⟩ | ⟨e1,e2,e3,e4,e5⟩
  ·rcases hq with ⟨_,g⟩ | ⟨g,_⟩
   ·exact ⟨by rw [g,e3],⟨fun _=>e2,fun _=>e1⟩⟩
   ·exact absurd e1 g
  ·rcases hq with ⟨g | g,_⟩ | ⟨_,_,g⟩
   ·exact absurd g e1
   ·omega
   ·exact ⟨by rw [g,hl,e3],⟨fun h=>absurd h e1,fun h=>by omega⟩⟩
 refine Ee (R:=fun o=>o=Sum.inl (0,2)/\(∀ n,QB s≠Ya n)\/∃ v,o=Sum.inr v/\I64 v/\∀ n,QB s=Ya n->v=val (QB q)) (EA (fun x=>∃ k:Nat,x.2=(k:Int)/\k<=(QB q).length/\I64 x.1/\∀ n,QB s=Ya n->x.1=val ((QB q).take k)) (fun x=>(QB q).length - x.2.toNat) ⟨0,rfl,Ew _,hz,fun _ _=>rfl⟩ ?_) ?_
 ·rintro ⟨v,_⟩ ⟨k,rfl,hk,hv,hvn⟩;unfold Qzp;dsimp only at hv hvn;by_cases hkl:k < (QB q).length
  ·have hrng:=QJt (Ey hkl);refine Eh (XT hkl) (Eb (Xo (xs:=QB q) hkl) (Runs.bif (fun hb=>?_) (fun hb=>?_)))
   ·refine Ea (.inl ⟨rfl,fun n hn=>?_⟩);have hm:(QB q)[k]∈Y2 n.natAbs:=(hdig n hn).1▸Ey hkl;have:=Qgd hm;have hb:=of_decide_eq_true hb;rw [Go.IntWalk.u8_in _ (by omega)] at hb;omega
   ·refine Ea ⟨⟨k+1,Xk k (by omega),by omega,Qwf _,fun n hn=>?_⟩,?_⟩
    ·show w64 _=_;have H:∀ z∈QB q,48<=z/\z<=57:=fun z hzq=>Qgd ((hdig n hn).1▸hzq:z∈Y2 n.natAbs)
     have hm:=H _ (Ey hkl);have V:=Qkj (D:=(QB q).take k) (fun z I=>H z (ET I)) (by rw [Et];omega);have Y:=Qkj (D:=(QB q).take (k+1)) (fun z I=>H z (ET I)) (by rw [Et];omega);have hdv:=Qyo hkl;rw [hvn n hn,Go.IntWalk.u8_in _ (by omega),XS (x:=(QB q)[k] - 48) (by omega),XS (x:=val ((QB q).take k) * 10) (by omega),XS (by omega),hdv]
    ·show (QB q).length - (w64 ((k:Int)+1)).toNat < (QB q).length - ((k:Nat):Int).toNat;rw [Xk k (by omega)];simp;omega
  ·obtain rfl:k=(QB q).length:=by omega
   refine Ek (XR _) (Ea (.inr ⟨v,rfl,hv,fun n hn=>?_⟩));rw [hvn n hn,Em (El _)]
 ·rintro _ (⟨rfl,hno⟩ | ⟨v,rfl,hv,hvn⟩)
  ·exact EW ⟨⟨hz,.inr (.inr rfl)⟩,fun n hn=>absurd hn (hno n)⟩
  ·refine EX (Eb G (Runs.bif (fun hb=>?_) (fun hb=>?_)))
   ·refine Ea ⟨⟨Qwf _,.inl rfl⟩,fun n hn=>?_⟩;have h:=hvn n hn;rw [(hdig n hn).1,Qei] at h;have hneg:=((hdig n hn).2).1 (of_decide_eq_true hb);have h3:=hv.1;have h4:=hv.2;rw [h,XS (by omega)];congr 1;omega
   ·refine Ea ⟨⟨hv,.inl rfl⟩,fun n hn=>?_⟩;have h:=hvn n hn;rw [(hdig n hn).1,Qei] at h;have hneg:=(hdig n hn).2;have hb:=of_decide_eq_false hb;rw [h];congr 1;omega
theorem Qyd {s:ByteArray} (h:s.size<=100000):Qgj s=some s:=by
 unfold Qgj;rw [decide_eq_true (by omega)];rfl
theorem Q4k {f s:ByteArray} {e:Int} (hs:s.size<=100000) (h:Qbl e) (G:e≠0):Qpb f s 0 0 e=some (-1):=by
 refine EP ?_;unfold Qpb;rcases h with rfl | rfl | rfl
 ·exact absurd rfl G
 ·refine Ek rfl (Eh rfl (Ee (R:=fun _=>True) ?_ fun _ _=>Ea rfl));unfold Qvg;exact Eb (Qyd hs) (Ea trivial)
 ·refine Eh rfl (Ee (R:=fun _=>True) ?_ fun _ _=>Ea rfl);unfold Qvh;exact Eb (Qyd hs) (Ea trivial)
theorem QJh {s:ByteArray} (hs:s.size<=100000):Runs (Qpa s) fun r=>I64 r.1/\∀ n,QB s=Ya n->s.size<=18->r=(n,0):=by
 unfold Qpa;refine Ee (R:=fun r=>(I64 r.1/\Qbl r.2)/\∀ n,QB s=Ya n->s.size<=18->r=(n,0)) ?_ ?_
 ·by_cases h:0 < s.size/\s.size < 19
  ·exact Runs.mono (QJg h.1 h.2) fun r hr=>⟨hr.1,fun n hn _=>hr.2 n hn⟩
  ·unfold Qig;refine Ek ?_ (Ee (QXk hs) fun r hr=>Ea ⟨hr,fun n hn G=>?_⟩)
   ·simp;omega
   ·exfalso;have:s.size=0:=by omega
    have H:=YR s;rw [hn,Qrh] at H;have:=(Qeu n.natAbs).1;omega
 ·rintro ⟨v,e⟩ ⟨⟨H,J⟩,I⟩;by_cases he:e=0
  ·exact Ek (by simp [he]) (Ea ⟨H,fun n hn G=>by have:=I n hn G;rw [Prod.mk.injEq] at this;rw [this.1]⟩)
  ·refine Eh (by simp [he]) (Eb (Q4k hs J he) (Ea ⟨H,fun n hn G=>?_⟩));have:=I n hn G;rw [Prod.mk.injEq] at this;exact absurd this.2 he
end Go.Gw

end
section
namespace Go.Gw
open Go Go.Conc
theorem AtL.of {l:Loc} {a:Addr} (h:l=.cell a):AtL l a:=h▸.cell a

inductive Lv where
 | no | rel | zero
section
variable {ga:Addr} {t u:Trace} {i e:Nat} {l:Lv}
def RelK (ga:Addr) (t:Trace) (i e:Nat):Prop:=∃ r z,t[r]?=some z/\z.g=i/\z.act=.mark (.releaseMerge ga)/\t.heard r/\HappensBefore t e r
theorem RelK.app (u:Trace) (h:RelK ga t i e):RelK ga (t++u) i e:=by
 obtain ⟨r,z,G,H,I,J,M⟩:=h;have hr:=lt_size_of_getElem? G;exact ⟨r,z,by grind,H,I,(heard_old hr).2 J,hb_app u M⟩
def Kn (ga:Addr) (t:Trace) (l:Lv) (i e:Nat):Prop:=match l with | .no=>Knows t i e | .rel=>RelK ga t i e | .zero=>Knows t 0 e
theorem Kn.app (u:Trace) (h:Kn ga t l i e):Kn ga (t++u) l i e:=by
 cases l
 ·exact Knows.app u h
 ·exact RelK.app u h
 ·exact Knows.app u h
theorem Kn.no (h:Kn ga t l i e) (hl:l=.no):Knows t i e:=by subst hl;exact h
end

structure SeenG (ga:Addr) (B:Nat->Prop) (l:Lv) (x:View) (W:World) (t:Trace) (i:Nat):Prop where
 agr:Agr x.F x.Z x.w W
 nov:NoView x.w
 bnd:∀ b,x.F b->b < W.heap.size
 out:∀ b,B b->¬ x.F b
 own:∀ e a ad,touchAt t e=some a->AtL a.loc ad->x.F ad.block->¬ x.Z ad.block->Kn ga t l i e
 shr:∀ e a ad,touchAt t e=some a->AtL a.loc ad->x.Z ad.block->a.write=true->Kn ga t l i e
structure PG (Sh:Loc->Prop) (ga:Addr) (C:Nat) (Q:Nat->Addr->Prop) (lim:Nat->Lv) (vs:Nat->Option View) (n:Nat) (W:World) (t:Trace):Prop where
 seen:∀ i x,vs i=some x->i < n/\SeenG ga (fun b=>b=ga.block\/b=C) (lim i) x W t i
 apart:∀ i j x y,i≠j->vs i=some x->vs j=some y->Apart x y
 clean:∀ said,¬ Race said t
 known:∀ e a,touchAt t e=some a->a.loc.isMemory=true->Knows t 0 e\/(Sh a.loc/\a.kind=.atomic)\/(∃ ad,a.loc=.cell ad/\ad.block=ga.block/\a.kind=.atomic)\/∃ j,(vs j).isSome=true/\Kn ga t (lim j) j e
 grp:∀ e a ad,touchAt t e=some a->AtL a.loc ad->ad.block=ga.block->a.kind=.atomic\/(a.kind=.said/\t.g? e=some 0)
 pay:∀ e a ad,touchAt t e=some a->AtL a.loc ad->ad.block=C->∀ i,Q i ad->Kn ga t (lim i) i e
 qd:∀ i j ad,i≠j->Q i ad->¬ Q j ad
 qs:∀ i ad,Q i ad->(vs i).isSome=true
 over:∀ e g,t.g? e=some g->g≠0->t.counts e->(∃ j,t.g? j=some 0/\HappensBefore t e j)\/∃ j,(vs j).isSome=true/\Kn ga t (lim j) j e
 above:∀ j,n<=j->Deaf t j=0
 low:∀ op∈t,op.act.low W.heap.size
 norel:∀ op∈t,op.act≠.mark (.release ga)
 mono:∀ i x x0,vs i=some x->vs 0=some x0->∀ b,x.Z b->x0.F b
 gl:ga.block < W.heap.size
 cl:C < W.heap.size
 gc:ga.block≠C

inductive PushOk (ga:Addr) (C:Nat) (Q:Nat->Addr->Prop) (lim:Nat->Lv) (t:Trace) (y:MemOp):Prop
 | calm:y.act.touch?=none->PushOk ga C Q lim t y
 | atom (ad:Addr) (w:Bool):y.act=.access ⟨.cell ad,w,true⟩->ad.block=ga.block->0 < Deaf t y.g->PushOk ga C Q lim t y
 | said (ad:Addr):y.g=0->ad.block=ga.block->(y.act=.mark (.read ad)\/y.act=.mark (.write ad))->PushOk ga C Q lim t y
 | pay (ad:Addr) (w:Bool):y.act=.access ⟨.cell ad,w,false⟩->ad.block=C->Q y.g ad->lim y.g=.no->PushOk ga C Q lim t y

section
variable {Sh:Loc->Prop} {ga:Addr} {C n:Nat} {Q:Nat->Addr->Prop} {lim:Nat->Lv} {vs:Nat->Option View} {W W':World} {t:Trace} {i:Nat} {x:View}

theorem Qfo {y:MemOp} {e:Nat} {a:Touch} (h:touchAt (t++#[y]) e=some a):(e < t.size/\touchAt t e=some a)\/(e=t.size/\y.act.touch?=some a):=by
 rcases Qch h with ⟨G,H⟩ | ⟨G,op,H,I,J⟩
 ·simp_all
 grind
theorem Qml {y:MemOp}:Knows (t++#[y]) y.g t.size:=knows_own (z:=y) Qec
theorem PG.push (h:PG Sh ga C Q lim vs n W t) {y:MemOp} (hy:PushOk ga C Q lim t y) (hn:y.g < n) (hl:y.act.low W.heap.size) (hr:y.act≠.mark (.release ga)):PG Sh ga C Q lim vs n W (t++#[y]):=by
 -- where a new touch lies
 have hnew:∀ b,y.act.touch?=some b->∃ ad,b.loc=.cell ad/\(ad.block=ga.block\/ad.block=C):=fun b hb=>by
  cases hy with
  | calm G=>simp_all
  | atom ad w G H J=>grind [MemAct.touch?]
  | said ad G H J=>grind [MemAct.touch?]
  | pay ad w G H J I=>grind [MemAct.touch?]
 refine ⟨fun j x hx=>?_,h.apart,fun said=>?_,fun e a ha hm=>?_,fun e a ad ha hl' hb=>?_,fun e a ad ha hl' hb j hq=>?_,h.qd,h.qs,fun e g hge hne hc=>?_,fun j hj=>?_,fun op hop=>?_,fun op hop=>?_,h.mono,h.gl,h.cl,h.gc⟩
 ·obtain ⟨hjn,sx⟩:=h.seen j x hx;refine ⟨hjn,sx.agr,sx.nov,sx.bnd,sx.out,fun e a ad ha hl' hF hz=>?_,fun e a ad ha hl' hz hw=>?_⟩
  ·rcases Qfo ha with ⟨_,G⟩ | ⟨_,G⟩
   ·exact (sx.own e a ad G hl' hF hz).app _
   ·obtain ⟨ad',H,J⟩:=hnew a G;cases hl'.inj (AtL.of H);exact absurd hF (sx.out _ J)
  ·rcases Qfo ha with ⟨_,G⟩ | ⟨_,G⟩
   ·exact (sx.shr e a ad G hl' hz hw).app _
   ·obtain ⟨ad',H,J⟩:=hnew a G;cases hl'.inj (AtL.of H);exact absurd (sx.agr.zf _ hz) (sx.out _ J)
 ·refine noRace_append (g:=y.g) (h.clean said) (fun op hop=>by simp_all) fun e a hta op hop b hb hcf=>?_;have:op=y:=by grind
  subst this;obtain ⟨V,c2,c3,c4⟩:=hcf;cases hy with
  | calm G=>simp_all
  | atom ad w G H J =>
   exfalso;rw [G] at hb;simp only [MemAct.touch?] at hb;cases hb;rcases h.grp e a ad hta (AtL.of V) H with I | ⟨I,_⟩<;>(simp_all)
  | said ad G H J =>
   have hb':b.loc=.cell ad/\b.kind=.said:=by grind [MemAct.touch?]
   rcases h.grp e a ad hta (AtL.of (V.trans hb'.1)) H with I | ⟨I,M⟩
   ·simp_all
   ·obtain ⟨z,hz,ab⟩:=Ef.1 M
    grind [knows_own]
  | pay ad w G H J I =>
   rw [G] at hb;simp only [MemAct.touch?] at hb;cases hb;exact (h.pay e a ad hta (AtL.of V) H _ J).no I
 ·rcases Qfo ha with ⟨_,G⟩ | ⟨rfl,G⟩
  ·rcases h.known e a G hm with H | H | H | ⟨j,H,J⟩
   ·exact .inl (H.app _)
   ·simp_all
   ·simp_all
   ·exact .inr (.inr (.inr ⟨j,H,J.app _⟩))
  ·cases hy with
   | calm H=>simp_all
   | atom ad w H J I=>grind [MemAct.touch?]
   | said ad H J I=>grind [Qml]
   | pay ad w H J I M=>exact .inr (.inr (.inr ⟨y.g,h.qs _ _ I,by rw [M];exact Qml⟩))
 ·rcases Qfo ha with ⟨O,G⟩ | ⟨rfl,G⟩
  ·exact (h.grp e a ad G hl' hb).imp id fun H=>⟨H.1,by grind [g?_old]⟩
  ·cases hy with
   | calm H=>simp_all
   | atom ad w H J I=>grind [MemAct.touch?]
   | said ad H J I=>grind [MemAct.touch?,Trace.g?,Qec]
   | pay ad w H J I M=>rw [H] at G;simp only [MemAct.touch?] at G;cases G;cases hl';exact absurd (hb.symm.trans J) h.gc
 ·rcases Qfo ha with ⟨O,G⟩ | ⟨rfl,G⟩
  ·exact (h.pay e a ad G hl' hb j hq).app _
  ·cases hy with
   | calm H=>simp_all
   | atom ad w H J I=>rw [H] at G;simp only [MemAct.touch?] at G;cases G;cases hl';exact absurd (J.symm.trans hb) h.gc
   | said ad H J I=>rcases I with I | I<;>(rw [I] at G;simp only [MemAct.touch?] at G;cases G;cases hl';exact absurd (J.symm.trans hb) h.gc)
   | pay ad w H J I M =>
    rw [H] at G;simp only [MemAct.touch?] at G;cases G;cases hl';have:j=y.g:=Classical.byContradiction fun hne=>h.qd j y.g ad hne hq I
    subst this;rw [M];exact Qml
 ·rcases g?_cases hge with ⟨O,G⟩ | ⟨O,op,G,H,J⟩
  ·rcases h.over e g G hne ((counts_old O).1 hc) with ⟨j,I,M⟩ | ⟨j,I,M⟩
   ·exact .inl ⟨j,by grind [g?_old,lt_of_g?],hb_app _ M⟩
   ·exact .inr ⟨j,I,M.app _⟩
  ·have:op=y:=by grind
   subst this;have he:e=t.size:=by
    grind
   subst he;obtain ⟨a,ha,_,hk⟩:=hc;rw [show ((t++#[op]).act? t.size).bind (·.touch?)=touchAt (t++#[op]) t.size from rfl,touchAt_of J] at ha;cases hy with
   | calm I=>simp_all
   | atom ad w I M Y =>
    exfalso;rw [I] at ha;simp only [MemAct.touch?] at ha;cases ha;rcases hk with hk | ⟨g',U,aa⟩
    ·simp at hk
    ·rw [hge] at U;cases U;rw [deaf_old (El _)] at aa
     grind [Deaf]
   | said ad I M Y=>omega
   | pay ad w I M Y h7=>exact .inr ⟨op.g,h.qs _ _ Y,by rw [h7];exact Qml⟩
 ·rw [Deaf_other t (g':=y.g) (by omega) _ (fun op hop=>by simp_all)];exact h.above j hj
 ·rcases Ez.1 hop with G | G
  ·exact h.low op G
  simp_all
 ·rcases Ez.1 hop with G | G
  ·exact h.norel op G
  simp_all

theorem Agr.off {F Z:Nat->Prop} {w:World} (h:Agr F Z w W) (ht:W'.tape=W.tape) (hd:W'.drawn=W.drawn) (ho:W'.os=W.os) (hu:W'.output=W.output) (hs:W'.heap.size=W.heap.size) (hb:∀ b,F b->W'.heap[b]?=W.heap[b]?):Agr F Z w W' :=
 ⟨ht.trans h.tape,hd.trans h.drawn,ho.trans h.os,hu.trans h.output,hs.trans h.size,fun b hF hz=>by rw [hb b hF];exact h.own b hF hz,fun b hF hz=>by rw [hb b hF];exact h.shr b hF hz,h.hid,h.zf⟩
theorem PG.turn (h:PG Sh ga C Q lim vs n W t) (ht:W'.tape=W.tape) (hd:W'.drawn=W.drawn) (ho:W'.os=W.os) (hu:W'.output=W.output) (hs:W'.heap.size=W.heap.size) (hb:∀ b,b≠ga.block->b≠C->W'.heap[b]?=W.heap[b]?):PG Sh ga C Q lim vs n W' t :=
  ⟨fun i x hx=>by
    obtain ⟨G,sx⟩:=h.seen i x hx;exact ⟨G,sx.agr.off ht hd ho hu hs (fun b hF=>hb b (fun e=>sx.out b (.inl e) hF) (fun e=>sx.out b (.inr e) hF)),sx.nov,fun b hF=>by rw [hs];exact sx.bnd b hF,sx.out,sx.own,sx.shr⟩,
   h.apart,h.clean,h.known,h.grp,h.pay,h.qd,h.qs,h.over,h.above,fun op hop=>by rw [hs];exact h.low op hop,h.norel,h.mono,by rw [hs];exact h.gl,by rw [hs];exact h.cl,h.gc⟩

theorem PG.at (h:PG Sh ga C Q lim vs n W t) (d:Nat):PG Sh ga C Q lim (Qcv vs d) n (W.at d) t:=by
 refine ⟨fun j y hy=>?_,fun j k y z hjk hy hz=>?_,h.clean,fun e a ha hm=>?_,h.grp,h.pay,h.qd,fun j ad hq=>by rw [Qln];exact h.qs j ad hq,fun e g hge hne hc=>?_,h.above,h.low,h.norel,fun j y I hy G b hb=>?_,h.gl,h.cl,h.gc⟩
 ·obtain ⟨I,G,rfl⟩:=Ef.1 hy;obtain ⟨J,sx⟩:=h.seen j I G;exact ⟨J,sx.agr.at d,sx.nov.rel (JX _ d),sx.bnd,sx.out,sx.own,sx.shr⟩
 ·obtain ⟨I,G,rfl⟩:=Ef.1 hy;obtain ⟨Y,M,rfl⟩:=Ef.1 hz;exact h.apart j k I Y hjk G M
 ·rcases h.known e a ha hm with H | H | H | ⟨j,H,V⟩
  ·grind
  ·simp_all
  ·simp_all
  grind [Qln]
 ·rcases h.over e g hge hne hc with H | ⟨j,H,V⟩
  ·grind
  grind [Qln]
 ·obtain ⟨y',J,rfl⟩:=Ef.1 hy;obtain ⟨O,U,rfl⟩:=Ef.1 G;exact h.mono j y' O J U b hb
end
end Go.Gw

end
section
namespace Go.Gw
open Go Go.Conc
section
variable {Sh:Loc->Prop} {ga:Addr} {C n:Nat} {Q:Nat->Addr->Prop} {lim:Nat->Lv} {vs:Nat->Option View} {W W':World} {t:Trace} {i:Nat} {x:View}

theorem PG.old_low (h:PG Sh ga C Q lim vs n W t) {e:Nat} {a:Touch} {ad:Addr} (ha:touchAt t e=some a) (hl:AtL a.loc ad):ad.block < W.heap.size:=by
 obtain ⟨op,ho,hop⟩:=touch_of ha;have:=h.low op (mem_of_getElem? ho);obtain ⟨g,fn,pos,act⟩:=op;cases act with
 | access ev =>
  simp only [MemAct.touch?] at hop;cases hop;simp only [MemAct.low] at this;simp only at hl;generalize ev.loc=l at this hl;cases hl<;>exact this
 | mark m =>
  cases m<;>simp only [MemAct.touch?] at hop<;>first | (cases hop;done) | (cases hop;simp only at hl;cases hl;exact this)
 | _=>trivial

theorem QLt {F Z:Nat->Prop} {e:Event} (h:EvOk F Z e):MemAct.ofEvent e≠.mark (.release ga):=by
 obtain ⟨loc,wr,sy⟩:=e;rcases h with ⟨a,G,H,I,J⟩ | G
 ·simp only at G H;subst H;cases G<;>cases wr<;>simp [MemAct.ofEvent]
 grind [MemAct.ofEvent]

theorem PG.step (h:PG Sh ga C Q lim vs n W t) (hi:vs i=some x) (hli:lim i=.no) {F':Nat->Prop} {w':World} (ha:AgrTo x.F x.Z W F' w' W') (hn:NoView w') {es:Array Event} (he:∀ e∈es,EvOk F' x.Z e) (fn:FuncId) (pos:String) :
    PG Sh ga C Q lim (Qbd vs i (some ⟨fun b=>F' b/\b < W'.heap.size,x.Z,w'⟩) W') n W' (t++MemOp.ofEvents i fn pos es):=by
  obtain ⟨hin,hx⟩:=h.seen i x hi;have hg:∀ op∈MemOp.ofEvents i fn pos es,op.g=i:=fun op hop=>by grind [Conc.mem_ofEvents]
  have hF:∀ b,F' b->b < W.heap.size->x.F b:=fun b hb hlt=>by
    rcases ha.new b hb with G | G
    · exact G
    · omega
  have hown:∀ {e z},(t++MemOp.ofEvents i fn pos es)[e]?=some z->z.g=i->Kn ga (t++MemOp.ofEvents i fn pos es) (lim i) i e:=fun hz hzg=>by
    rw [hli];have:=knows_own hz;rwa [hzg] at this
  have hki:∀ {e},Kn ga t (lim i) i e->Knows t i e:=fun hk=>hk.no hli
  have hout:∀ b,(b=ga.block\/b=C)->¬ F' b:=fun b hb hF'=>by
    have hlt:b < W.heap.size:=by rcases hb with rfl | rfl;exact h.gl;exact h.cl
    exact hx.out b hb (hF b hF' hlt)
  have hop:∀ op∈MemOp.ofEvents i fn pos es,∀ b,op.act.touch?=some b->∃ ad,AtL b.loc ad/\F' ad.block/\(b.write=true->¬ x.Z ad.block)/\b.kind=.plain:=fun op hop b hb=>by
    grind [Qrq,Conc.mem_ofEvents]
  have hgrow:∀ j y,j≠i->vs j=some y->Agr y.F y.Z (J8 W' y).w W'/\∀ b,y.F b->W'.heap[b]?=W.heap[b]?:=fun j y hj hy=>by
    obtain ⟨_,sy⟩:=h.seen j y hy;have hk:∀ b,y.F b->W'.heap[b]?=W.heap[b]?:=fun b hb=>ha.keep b (sy.bnd b hb) (by
      rcases Classical.em (x.F b) with hxb | hxb
      · exact .inr ((h.apart i j x y (Ne.symm hj) hi hy) b hxb hb).1
      simp_all)
    exact ⟨sy.agr.grown y rfl sy.bnd ha.size ha.same.1 ha.same.2.1 ha.same.2.2 hk,hk⟩
  refine ⟨fun j y hy=>?_,fun j k y z hjk hy hz=>?_,fun said=>?_,fun e a hta hm=>?_,fun e a ad hta hl hb=>?_,fun e a ad hta hl hb j hq=>?_,h.qd,fun j ad hq=>Quc (h.qs j ad hq),fun e g hge hne hc=>?_,fun j hj=>?_,fun op hop'=>?_,fun op hop'=>?_,fun j y O hy H b hb=>?_,Eo h.gl ha.size,Eo h.cl ha.size,h.gc⟩
  · by_cases hj:j=i
    · subst hj;rw [J9] at hy;cases hy;refine ⟨hin,ha.agr.cut,hn,fun b hb=>hb.2,fun b hb hF'=>hout b hb hF'.1,fun e a ad hta hl hFb hz=>?_,fun e a ad hta hl hz hw=>?_⟩
      · rcases Qch hta with ⟨_,G⟩ | ⟨_,op,G,J,U⟩
        · exact (hx.own e a ad G hl (hF _ hFb.1 (h.old_low G hl)) hz).app _
        simp_all
      · rcases Qch hta with ⟨_,G⟩ | ⟨_,op,G,J,U⟩
        · exact (hx.shr e a ad G hl hz hw).app _
        simp_all
    · rw [JI hj] at hy;obtain ⟨O,H,rfl⟩:=Ef.1 hy;obtain ⟨hjn,sy⟩:=h.seen j O H;obtain ⟨hag,hk⟩:=hgrow j O hj H;have hap:=h.apart i j x O (Ne.symm hj) hi H;refine ⟨hjn,hag,sy.nov.rel Qgi,fun b hb=>Eo (sy.bnd b hb) ha.size,sy.out,fun e a ad hta hl hFb hz=>?_,fun e a ad hta hl hz hw=>?_⟩
      · rcases Qch hta with ⟨_,G⟩ | ⟨_,op,G,J,U⟩
        · exact (sy.own e a ad G hl hFb hz).app _
        · obtain ⟨ad',I,M,Y,_⟩:=hop op G a J;cases hl.inj I;exact absurd (hap _ (hF _ M (sy.bnd _ hFb)) hFb).2 hz
      · rcases Qch hta with ⟨_,G⟩ | ⟨_,op,G,J,U⟩
        · exact (sy.shr e a ad G hl hz hw).app _
        · obtain ⟨ad',I,M,Y,_⟩:=hop op G a J;cases hl.inj I;have hFb:O.F ad.block:=sy.agr.zf _ hz;exact absurd (hap _ (hF _ M (sy.bnd _ hFb)) hFb).1 (Y hw)
  · have key : ∀ j y, j ≠ i -> Qbd vs i (some ⟨fun b => F' b /\ b < W'.heap.size, x.Z, w'⟩) W' j = some y -> Apart ⟨fun b => F' b /\ b < W'.heap.size, x.Z, w'⟩ y := fun j y hj hy => by
      rw [JI hj] at hy;obtain ⟨O,H,rfl⟩:=Ef.1 hy;intro b hb hyb;exact h.apart i j x O (Ne.symm hj) hi H b (hF b hb.1 ((h.seen j O H).2.bnd b hyb)) hyb
    by_cases hj:j=i
    · subst hj;rw [J9] at hy;grind
    · by_cases hk:k=i
      · subst hk;rw [J9] at hz;cases hz;exact (key j y hjk hy).symm
      · rw [JI hj] at hy;rw [JI hk] at hz;obtain ⟨O,H,rfl⟩:=Ef.1 hy;obtain ⟨z0,aa,rfl⟩:=Ef.1 hz;exact h.apart j k O z0 hjk H aa
  · refine noRace_append (h.clean said) hg fun e a hta op hop' b hb hcf=>?_;obtain ⟨ad,I,M,Y,_⟩:=hop op hop' b hb;have hl:AtL a.loc ad:=hcf.1▸I;have hFb:=hF _ M (h.old_low hta hl);rcases Classical.em (x.Z ad.block) with hz | hz
    · refine hki (hx.shr e a ad hta hl hz ?_);rcases hcf.2.2.1 with h7 | h7
      · exact h7
      simp_all
    · exact hki (hx.own e a ad hta hl hFb hz)
  · rcases Qch hta with ⟨_,G⟩ | ⟨_,op,G,J,U⟩
    · rcases h.known e a G hm with I | I | I | ⟨j,I,M⟩
      · exact .inl (I.app _)
      · simp_all
      · simp_all
      · exact .inr (.inr (.inr ⟨j,Quc I,M.app _⟩))
    grind [J9]
  · rcases Qch hta with ⟨V,G⟩ | ⟨_,op,G,J,U⟩
    · exact (h.grp e a ad G hl hb).imp id fun J=>⟨J.1,by grind [g?_old]⟩
    · obtain ⟨ad',I,M,_⟩:=hop op G a J;cases hl.inj I;simp_all
  · rcases Qch hta with ⟨V,G⟩ | ⟨_,op,G,J,U⟩
    · exact (h.pay e a ad G hl hb j hq).app _
    · obtain ⟨ad',I,M,_⟩:=hop op G a J;cases hl.inj I;simp_all
  · rcases g?_cases hge with ⟨V,G⟩ | ⟨_,op,G,J,U⟩
    · rcases h.over e g G hne ((counts_old V).1 hc) with ⟨j,I,M⟩ | ⟨j,I,M⟩
      · exact .inl ⟨j,by grind [g?_old,lt_of_g?],hb_app _ M⟩
      · exact .inr ⟨j,Quc I,M.app _⟩
    grind [J9]
  · rw [Deaf_other t (by omega) _ hg];exact h.above j hj
  · rcases Ez.1 hop' with G | G
    · exact MemAct.low_mono ha.size (h.low op G)
    · obtain ⟨e,hee,rfl⟩:=Conc.mem_ofEvents G;refine Qrp (F:=fun b=>F' b) (he e hee) fun b hb=>?_;rcases ha.new b hb with J | J
      · exact Eo (hx.bnd b J) ha.size
      omega
  · rcases Ez.1 hop' with G | G
    · exact h.norel op G
    grind [Conc.mem_ofEvents,QLt]
  · have hZ : ∃ y', vs j = some y' /\ y'.Z b := by
      by_cases hj:j=i
      · grind [J9]
      · rw [JI hj] at hy;obtain ⟨y',G,rfl⟩:=Ef.1 hy;exact ⟨y',G,hb⟩
    obtain ⟨y',hy',hb'⟩:=hZ;by_cases V:0=i
    · subst V;rw [J9] at H;cases H;have hxb:=h.mono j y' x hy' hi b hb';exact ⟨ha.more b hxb,Eo (hx.bnd b hxb) ha.size⟩
    · rw [JI V] at H;obtain ⟨ab,G,rfl⟩:=Ef.1 H;exact h.mono j y' ab hy' G b hb'

theorem QSv {e:Event} (h:e.mute=true):MemAct.ofEvent e≠.mark (.release ga):=by
 obtain ⟨loc,wr,sy⟩:=e;cases loc with
 | mark m=>cases m<;>simp_all [Event.mute,MemAct.ofEvent]
 | _=>trivial
theorem PG.pushes (h:PG Sh ga C Q lim vs n W t) {fn:FuncId} {pos:String} (hin:i < n):∀ (es:List Event) (u:Trace),PG Sh ga C Q lim vs n W (t++u)->(∀ (k:Nat) (e:Event),es[k]?=some e->PushOk ga C Q lim (t++u++MemOp.ofEvents i fn pos (es.take k).toArray) { g:=i,fn:=fn,pos:=pos,act:=.ofEvent e }/\(MemAct.ofEvent e).low W.heap.size/\MemAct.ofEvent e≠.mark (.release ga)) ->
  PG Sh ga C Q lim vs n W (t++u++MemOp.ofEvents i fn pos es.toArray)
 | [],u,hu,_=>by trivial
 | e::es,u,hu,hk=>by
  have G:=hk 0 e rfl;have e1:t++u++MemOp.ofEvents i fn pos (List.take 0 (e::es)).toArray=t++u:=by rfl
  rw [e1] at G;have H:=hu.push G.1 hin G.2.1 G.2.2;have e2:∀ l:List Event,t++u++MemOp.ofEvents i fn pos (e::l).toArray=t++(u++#[{ g:=i,fn:=fn,pos:=pos,act:=.ofEvent e }])++MemOp.ofEvents i fn pos l.toArray:=fun l=>by
   grind [Array.toList_inj,ofEvents_eq]
  rw [e2];refine h.pushes hin es _ (by simp_all) fun k e' he'=>?_;have:=hk (k+1) e' (by trivial);simp_all
theorem PG.mute (h:PG Sh ga C Q lim vs n W t) (hin:i < n) {es:Array Event} (hm:∀ e∈es,e.mute=true) (fn:FuncId) (pos:String):PG Sh ga C Q lim vs n W (t++MemOp.ofEvents i fn pos es):=by
 obtain ⟨l⟩:=es;have:=h.pushes (i:=i) (fn:=fn) (pos:=pos) hin l #[] (by grind) fun k e he=>by
  have hme:e.mute=true:=hm e (by grind);exact ⟨.calm (touch_mute hme),low_mute hme _,QSv hme⟩
 trivial

open Classical in
theorem PG.rel (h:PG Sh ga C Q lim vs n W t) (hin:i < n) (hd:Deaf t i=0) (hli:lim i=.no) (fn:FuncId) (pos:String) :
  PG Sh ga C Q (fun j=>if j=i then .rel else lim j) vs n W (t++#[{ g:=i,fn:=fn,pos:=pos,act:=.mark (.releaseMerge ga) }]):=by
 generalize hy:({ g:=i,fn:=fn,pos:=pos,act:=.mark (.releaseMerge ga) }:MemOp)=y;have hyg:y.g=i:=by grind
 have hya:y.act=.mark (.releaseMerge ga):=by grind
 have hn:y.act.touch?=none:=by rw [hya];rfl
 have hb:=h.push (.calm hn) (by omega) (by rw [hya];exact h.gl) (by grind);have Yz:∀ {e a},touchAt (t++#[y]) e=some a->e < t.size/\touchAt t e=some a:=fun {e a} ha=>by
  rcases Qfo ha with G | ⟨_,G⟩
  ·exact G
  simp_all
 have key:∀ {j e},e < t.size->Kn ga t (lim j) j e->Kn ga (t++#[y]) (if j=i then .rel else lim j) j e:=fun {j e} he hk=>by
  by_cases hj:j=i
  ·subst hj;rw [if_pos rfl];rw [hli] at hk;obtain ⟨q,z,G,H,I⟩:=hk;have hq:=lt_size_of_getElem? G;refine ⟨t.size,y,Qec,hyg,hya,?_,?_⟩
   ·have:=Qlx (t1:=t) (y:=y) #[] (by simp_all);trivial
   ·have J:HappensBefore (t++#[y]) q t.size:=hb_po hq (by grind) Qec (H.trans hyg.symm);rcases I with rfl | I
    ·exact J
    ·exact (hb_app _ I).trans J
  ·rw [if_neg hj];exact hk.app _
 refine ⟨fun j x hx=>?_,h.apart,hb.clean,fun e a ha hm=>?_,hb.grp,fun e a ad ha hl hbl j hq=>?_,h.qd,h.qs,fun e g hge hne hc=>?_,hb.above,hb.low,hb.norel,h.mono,h.gl,h.cl,h.gc⟩
 ·obtain ⟨hjn,sx⟩:=h.seen j x hx;exact ⟨hjn,sx.agr,sx.nov,sx.bnd,sx.out,fun e a ad ha hl hF hz=>key (Yz ha).1 (sx.own e a ad (Yz ha).2 hl hF hz),fun e a ad ha hl hz hw=>key (Yz ha).1 (sx.shr e a ad (Yz ha).2 hl hz hw)⟩
 ·obtain ⟨M,G⟩:=Yz ha;rcases h.known e a G hm with H | H | H | ⟨j,H,I⟩
  ·exact .inl (H.app _)
  ·simp_all
  ·simp_all
  grind
 ·exact key (Yz ha).1 (h.pay e a ad (Yz ha).2 hl hbl j hq)
 ·obtain ⟨a,ha,U⟩:=id hc;obtain ⟨M,G⟩:=Yz (show touchAt (t++#[y]) e=some a from ha);rcases h.over e g (by grind [g?_old]) hne ((counts_old M).1 hc) with ⟨j,J,O⟩ | ⟨j,J,O⟩
  ·exact .inl ⟨j,by grind [g?_old,lt_of_g?],hb_app _ O⟩
  grind

theorem RelK.acq (hr:∀ op∈t,op.act≠.mark (.release ga)) (hd:Deaf t 0=0) (fn:FuncId) (pos:String) {j e:Nat} (hk:RelK ga t j e):Knows (t++#[{ g:=0,fn:=fn,pos:=pos,act:=.mark (.acquire ga) }]) 0 e:=by
 generalize hy:({ g:=0,fn:=fn,pos:=pos,act:=.mark (.acquire ga) }:MemOp)=y;have hyg:y.g=0:=by grind
 have hya:y.act=.mark (.acquire ga):=by grind
 obtain ⟨r,z,G,O,U,H,I⟩:=hk;have hr':=lt_size_of_getElem? G;refine ⟨t.size,y,Qec,hyg,.inr ((hb_app _ I).trans (.single (.inr ⟨?_,(heard_old hr').2 H,?_⟩)))⟩
 ·refine .marked (a:=ga) hr' (.inr ?_) ?_ fun k J M=>?_
  ·grind [Trace.act?,getElem?_append_old]
  ·grind [Trace.act?,Qec]
  grind [Trace.act?,getElem?_append_old,Ef,mem_of_getElem?]
 ·have:=Qlx (t1:=t) (y:=y) #[] (by simp_all);trivial
def Lv.acq:Lv->Lv
 | .rel=>.zero
 | l=>l
theorem PG.acq (h:PG Sh ga C Q lim vs n W t) (hin:0 < n) (hd:Deaf t 0=0) (fn:FuncId) (pos:String) :
  PG Sh ga C Q (fun j=>(lim j).acq) vs n W (t++#[{ g:=0,fn:=fn,pos:=pos,act:=.mark (.acquire ga) }]):=by
 have hacq:=fun {j e:Nat} (hk:RelK ga t j e)=>hk.acq h.norel hd fn pos
 generalize hy:({ g:=0,fn:=fn,pos:=pos,act:=.mark (.acquire ga) }:MemOp)=y at hacq ⊢;have hyg:y.g=0:=by grind
 have hya:y.act=.mark (.acquire ga):=by grind
 have hn:y.act.touch?=none:=by rw [hya];rfl
 have hb:=h.push (.calm hn) (by omega) (by rw [hya];exact h.gl) (by grind);have Yz:∀ {e a},touchAt (t++#[y]) e=some a->e < t.size/\touchAt t e=some a:=fun {e a} ha=>by
  rcases Qfo ha with G | ⟨_,G⟩
  ·exact G
  simp_all
 have key:∀ {j e},Kn ga t (lim j) j e->Kn ga (t++#[y]) (lim j).acq j e:=fun {j e} hk=>by
  cases hl:lim j with
  | no=>rw [hl] at hk;exact Knows.app _ hk
  | rel=>rw [hl] at hk;exact hacq hk
  | zero=>rw [hl] at hk;exact Knows.app _ hk
 refine ⟨fun j x hx=>?_,h.apart,hb.clean,fun e a ha hm=>?_,hb.grp,fun e a ad ha hl hbl j hq=>key (h.pay e a ad (Yz ha).2 hl hbl j hq),h.qd,h.qs,fun e g hge hne hc=>?_,hb.above,hb.low,hb.norel,h.mono,h.gl,h.cl,h.gc⟩
 ·obtain ⟨hjn,sx⟩:=h.seen j x hx;exact ⟨hjn,sx.agr,sx.nov,sx.bnd,sx.out,fun e a ad ha hl hF hz=>key (sx.own e a ad (Yz ha).2 hl hF hz),fun e a ad ha hl hz hw=>key (sx.shr e a ad (Yz ha).2 hl hz hw)⟩
 ·obtain ⟨I,G⟩:=Yz ha;rcases h.known e a G hm with H | H | H | ⟨j,H,O⟩
  ·exact .inl (H.app _)
  ·simp_all
  ·simp_all
  grind
 ·obtain ⟨a,ha,U⟩:=id hc;obtain ⟨I,G⟩:=Yz (show touchAt (t++#[y]) e=some a from ha);rcases h.over e g (by grind [g?_old]) hne ((counts_old I).1 hc) with ⟨j,M,J⟩ | ⟨j,M,J⟩
  ·exact .inl ⟨j,by grind [g?_old,lt_of_g?],hb_app _ J⟩
  grind
end
end Go.Gw

end
section
namespace Go.Gw
open Go Go.Conc
section
variable {Sh:Loc->Prop} {ga:Addr} {C n:Nat} {Q:Nat->Addr->Prop} {lim:Nat->Lv} {vs:Nat->Option View} {W W':World} {t:Trace} {i:Nat} {x y:View}

open Classical in
theorem PG.fork {K:Nat->Prop} {D:Addr->Prop} (h:PG Sh ga C Q lim vs n W t) (O:vs 0=some x) (J:lim 0=.no) (ag:Deaf t 0=0) (hC:∀ b,K b->x.F b) (hR:Rows K x.w) (hD:∀ ad,D ad->Q 0 ad) (fn fn':FuncId) (pos pos':String) :
    PG Sh ga C (fun j ad=>if j=0 then Q 0 ad/\¬ D ad else if j=n then D ad else Q j ad) (fun j=>if j=n then .no else lim j)
      (fun j=>if j=0 then some ⟨x.F,fun b=>x.Z b\/K b,frz K x.w⟩ else if j=n then some ⟨fun b=>x.Z b\/K b,fun b=>x.Z b\/K b,hid (fun b=>x.Z b\/K b) (frz K x.w)⟩ else vs j) (n+1) W
      (t++#[{ g:=0,fn:=fn,pos:=pos,act:=.go n }]++#[{ g:=n,fn:=fn',pos:=pos',act:=.start }]):=by
  have ak:0 < n:=(h.seen 0 x O).1;have hx:=(h.seen 0 x O).2;have hdn:=h.above n (El _);have Yz:∀ {e a},touchAt (t++#[{ g:=0,fn:=fn,pos:=pos,act:=.go n }]++#[{ g:=n,fn:=fn',pos:=pos',act:=.start }]) e=some a->touchAt t e=some a:=fun {e a} ha=>QHe (Qlf n 0 fn pos) (QHe (Qrc n fn' pos') ha)
  have hknow:∀ {e},Knows t 0 e->Knows (t++#[{ g:=0,fn:=fn,pos:=pos,act:=.go n }]++#[{ g:=n,fn:=fn',pos:=pos',act:=.start }]) n e:=fun hk=>QPg ag hdn hk
  have hdeaf:∀ j,Deaf (t++#[{ g:=0,fn:=fn,pos:=pos,act:=.go n }]++#[{ g:=n,fn:=fn',pos:=pos',act:=.start }]) j=Deaf t j:=fun j=>by grind [Qrf,Qrc,Qlf]
  have hlt:∀ {e a},touchAt t e=some a->e < t.size:=fun ha=>by obtain ⟨op,ho,_⟩:=touch_of ha;grind
  have hrace:∀ said,¬ Race said (t++#[{ g:=0,fn:=fn,pos:=pos,act:=.go n }]++#[{ g:=n,fn:=fn',pos:=pos',act:=.start }]):=fun said=>by
    refine noRace_append (g:=n) (noRace_append (g:=0) (h.clean said) (fun op hop=>?_) fun e a _ op hop b hb _=>?_) (fun op hop=>?_) fun e a _ op hop b hb _=>?_
    all_goals (rw [Array.mem_singleton.1 hop] at *)
    · trivial
    trivial
  have happ:∀ {l j e},Kn ga t l j e->Kn ga (t++#[{ g:=0,fn:=fn,pos:=pos,act:=.go n }]++#[{ g:=n,fn:=fn',pos:=pos',act:=.start }]) l j e:=fun hk=>(hk.app _).app _
  have ah:∀ e,e < t.size->(t++#[{ g:=0,fn:=fn,pos:=pos,act:=.go n }]++#[{ g:=n,fn:=fn',pos:=pos',act:=.start }]:Trace).g? e=t.g? e:=fun e he=>by rw [EV];exact g?_old he
  have V:∀ e,e < t.size->((t++#[{ g:=0,fn:=fn,pos:=pos,act:=.go n }]++#[{ g:=n,fn:=fn',pos:=pos',act:=.start }]:Trace).counts e↔t.counts e):=fun e he=>by rw [EV];exact counts_old he
  have ae:∀ e j,HappensBefore t e j->HappensBefore (t++#[{ g:=0,fn:=fn,pos:=pos,act:=.go n }]++#[{ g:=n,fn:=fn',pos:=pos',act:=.start }]) e j:=fun e j hk=>hb_app _ (hb_app _ hk)
  have H:∀ op∈t++#[{ g:=0,fn:=fn,pos:=pos,act:=.go n }]++#[{ g:=n,fn:=fn',pos:=pos',act:=.start }],op∈t\/op.act=.go n\/op.act=.start:=fun op hop=>by
    grind
  generalize (t++#[{ g:=0,fn:=fn,pos:=pos,act:=.go n }]++#[{ g:=n,fn:=fn',pos:=pos',act:=.start }]:Trace)=t2 at Yz hknow hdeaf hrace happ ah V ae H ⊢;have hone:∀ j y,vs j=some y->j≠n:=fun j y hy e=>by have:=(h.seen j y hy).1;omega
  have hones:∀ j,(vs j).isSome=true->j≠n:=fun j hj=>by
    grind [Option.isSome_iff_exists]
  have hsome:∀ j,(vs j).isSome=true->((if j=0 then some (⟨x.F,fun b=>x.Z b\/K b,frz K x.w⟩:View) else if j=n then some ⟨fun b=>x.Z b\/K b,fun b=>x.Z b\/K b,hid (fun b=>x.Z b\/K b) (frz K x.w)⟩ else vs j)).isSome=true:=fun j hj=>by
    grind
  have hagr:=hx.agr.frz hC hR;have hF:∀ b,(x.Z b\/K b)->x.F b:=fun b hz=>hz.elim (hx.agr.zf b) (hC b)
  have aa:∀ j y,j≠0->vs j=some y->∀ b,x.F b->y.F b->x.Z b/\y.Z b:=fun j y hj hy=>h.apart 0 j x y (Ne.symm hj) O hy
  have M:∀ {e a ad},touchAt t e=some a->AtL a.loc ad->x.F ad.block->¬ x.Z ad.block->Knows t 0 e:=fun ha hl hF' hz=>(hx.own _ _ _ ha hl hF' hz).no J
  have ab:∀ {e a ad},touchAt t e=some a->AtL a.loc ad->x.Z ad.block->a.write=true->Knows t 0 e:=fun ha hl hz hw=>(hx.shr _ _ _ ha hl hz hw).no J
  refine ⟨fun j y hy=>?_,fun j k y z hjk hy hz=>?_,hrace,fun e a ha hm=>?_,fun e a ad ha hl hb=>?_,fun e a ad ha hl hb j hq=>?_,fun j k ad hjk hj hk=>?_,fun j ad hq=>?_,fun e g hge hne hc=>?_,fun j hj=>by rw [hdeaf];exact h.above j (by omega),fun op hop=>?_,fun op hop=>?_,fun j y y0 hy Y b hz=>?_,h.gl,h.cl,h.gc⟩
  · by_cases hj:j=0
    · subst hj;rw [if_pos rfl] at hy;cases hy;have hn':(if (0:Nat)=n then Lv.no else lim 0)=Lv.no:=by simp_all
      rw [hn'];refine ⟨by omega,hagr,hx.nov.frz,hx.bnd,hx.out,fun e a ad ha hl hFb hz=>?_,fun e a ad ha hl hz hw=>?_⟩
      · exact happ (l:=.no) (M (Yz ha) hl hFb (fun e=>hz (.inl e)))
      · by_cases hZ:x.Z ad.block
        · exact happ (l:=.no) (ab (Yz ha) hl hZ hw)
        · exact happ (l:=.no) (M (Yz ha) hl (hF _ hz) hZ)
    · rw [if_neg hj] at hy;by_cases hjn:j=n
      · subst hjn;rw [if_pos rfl] at hy;cases hy;rw [if_pos rfl];refine ⟨by omega,hagr.hide (fun b=>Iff.rfl),hx.nov.frz.hide,fun b hb=>hx.bnd b (hF b hb),fun b hb hc=>hx.out b hb (hF b hc),fun e a ad ha hl hFb hz=>absurd hFb hz,fun e a ad ha hl hz hw=>?_⟩;refine hknow ?_
        grind
      · rw [if_neg hjn] at hy ⊢;obtain ⟨G,sy⟩:=h.seen j y hy;exact ⟨by omega,sy.agr,sy.nov,sy.bnd,sy.out,fun e a ad ha hl hF hz=>happ (sy.own e a ad (Yz ha) hl hF hz),fun e a ad ha hl hz hw=>happ (sy.shr e a ad (Yz ha) hl hz hw)⟩
  · have main : ∀ k z, k ≠ 0 -> (if k = 0 then some (⟨x.F, fun b => x.Z b \/ K b, frz K x.w⟩ : View) else if k = n then some ⟨fun b => x.Z b \/ K b, fun b => x.Z b \/ K b, hid (fun b => x.Z b \/ K b) (frz K x.w)⟩ else vs k) = some z -> Apart ⟨x.F, fun b => x.Z b \/ K b, frz K x.w⟩ z := fun k z hk hz b G U => by
      grind
    have chld:∀ k z,k≠0->k≠n->vs k=some z->Apart ⟨fun b=>x.Z b\/K b,fun b=>x.Z b\/K b,hid (fun b=>x.Z b\/K b) (frz K x.w)⟩ z:=fun k z hk hkn hz b G U=>⟨G,(aa k z hk hz b (hF b G) U).2⟩
    by_cases hj:j=0
    · grind
    · by_cases hk:k=0
      · subst hk;rw [if_pos rfl] at hz;cases hz;exact (main j y hj hy).symm
      · rw [if_neg hj] at hy;rw [if_neg hk] at hz;by_cases hjn:j=n
        · grind
        · rw [if_neg hjn] at hy;by_cases hkn:k=n
          · subst hkn;rw [if_pos rfl] at hz;cases hz;exact (chld j y hj hjk hy).symm
          · rw [if_neg hkn] at hz;exact h.apart j k y z hjk hy hz
  · rcases h.known e a (Yz ha) hm with I | I | I | ⟨j,I,h5⟩
    · exact .inl (happ (l:=.no) I)
    · simp_all
    · simp_all
    grind
  · have G:=hlt (Yz ha);exact (h.grp e a ad (Yz ha) hl hb).imp id fun U=>⟨U.1,by grind⟩
  · by_cases hj:j=0
    · subst hj;rw [if_pos rfl] at hq;have:=h.pay e a ad (Yz ha) hl hb 0 hq.1;simp_all
    · rw [if_neg hj] at hq;by_cases hjn:j=n
      · subst hjn;rw [if_pos rfl] at hq ⊢;exact hknow ((h.pay e a ad (Yz ha) hl hb 0 (hD ad hq)).no J)
      · rw [if_neg hjn] at hq ⊢;exact happ (h.pay e a ad (Yz ha) hl hb j hq)
  · have al : ∀ k, k ≠ 0 -> (if k = 0 then Q 0 ad /\ ¬ D ad else if k = n then D ad else Q k ad) -> ¬ (Q 0 ad /\ ¬ D ad) := fun k hk hq h0' => by
      rw [if_neg hk] at hq;by_cases hkn:k=n
      · simp_all
      · rw [if_neg hkn] at hq;exact h.qd k 0 ad hk hq h0'.1
    have nen:∀ k,k≠0->k≠n->Q k ad->¬ D ad:=fun k hk hkn hq hd=>h.qd k 0 ad hk hq (hD ad hd)
    by_cases ai:j=0
    · grind
    · by_cases aj:k=0
      · simp_all
      · rw [if_neg ai] at hj;rw [if_neg aj] at hk;by_cases hjn:j=n
        · simp_all
        · rw [if_neg hjn] at hj;by_cases hkn:k=n
          · simp_all
          · rw [if_neg hkn] at hk;exact h.qd j k ad hjk hj hk
  · by_cases hj:j=0
    · grind
    · by_cases hjn:j=n
      · simp_all
      · simp only [if_neg hj,if_neg hjn] at hq ⊢;exact h.qs j ad hq
  · obtain ⟨a,ha,h9⟩:=id hc;have G:=hlt (Yz (show touchAt t2 e=some a from ha));rcases h.over e g (by simp_all) hne ((V e G).1 hc) with ⟨j,I,h5⟩ | ⟨j,I,h5⟩
    · grind [lt_of_g?]
    grind
  · rcases H op hop with G | G | G
    · exact h.low op G
    · rw [G];trivial
    · rw [G];trivial
  · rcases H op hop with G | G | G
    · exact h.norel op G
    · grind
    simp_all
  · rw [if_pos rfl] at Y;cases Y;by_cases hj:j=0
    · grind
    · rw [if_neg hj] at hy;by_cases hjn:j=n
      · grind
      · rw [if_neg hjn] at hy;exact h.mono j y x hy O b hz

theorem QSs {B:Nat->Prop} {l l':Lv} (hx:SeenG ga B l x W t 0) (hy:SeenG ga B l' y W t i):NoView (merge x y):=fun b a u e=>by
 rw [Qet] at e;cases hb:x.w.heap[b]? with
 | none=>simp_all
 | some o =>
  rw [hb] at e;simp only [Option.map_some,Option.some.injEq] at e;split at e
  ·subst e;exact hx.nov b a u hb
  ·split at e
   ·cases hyb:y.w.heap[b]? with
    | none=>rw [hyb] at e;cases e
    | some o'=>rw [hyb] at e;simp at e;subst e;exact hy.nov b a u hyb
   ·cases e
theorem PG.merge (h:PG Sh ga C Q lim vs n W t) (H:vs 0=some x) (G:lim 0=.no) (hi:vs i=some y) (Y:i≠0) (met:∀ e,Kn ga t (lim i) i e->Knows t 0 e) :
    PG Sh ga C (fun j ad=>if j=0 then Q 0 ad\/Q i ad else if j=i then False else Q j ad) lim (fun j=>if j=0 then some ⟨fun b=>x.F b\/y.F b,x.Z,Gw.merge x y⟩ else if j=i then none else vs j) n W t:=by
  have hx:=(h.seen 0 x H).2;have hy:=(h.seen i y hi).2;have hap:=h.apart 0 i x y (Ne.symm Y) H hi;have hzz:∀ b,y.Z b->x.F b:=h.mono i y x hi H;have hag:=QSq hx.agr hy.agr hap hzz hy.bnd;have O:∀ {e},Kn ga t (lim 0) 0 e->Knows t 0 e:=fun hk=>hk.no G
  refine ⟨fun j z hz=>?_,fun j k z z' hjk hz hz'=>?_,h.clean,fun e a ha hm=>?_,h.grp,fun e a ad ha hl hb j hq=>?_,fun j k ad hjk hj hk=>?_,fun j ad hq=>?_,fun e g hge hne hc=>?_,h.above,h.low,h.norel,fun j z z0 hz J b hbz=>?_,h.gl,h.cl,h.gc⟩
  · by_cases hj:j=0
    · subst hj;rw [if_pos rfl] at hz;cases hz;rw [G];refine ⟨(h.seen 0 x H).1,hag,QSs hx hy,fun b hF=>hF.elim (hx.bnd b) (hy.bnd b),fun b hb e=>e.elim (hx.out b hb) (hy.out b hb),fun e a ad ha hl hF hz=>?_,fun e a ad ha hl hz hw=>(hx.shr e a ad ha hl hz hw).no G⟩;by_cases hxF:x.F ad.block
      · exact (hx.own e a ad ha hl hxF hz).no G
      · exact met e (hy.own e a ad ha hl (hF.resolve_left hxF) (fun e=>hxF (hzz _ e)))
    · rw [if_neg hj] at hz;by_cases hji:j=i
      · simp_all
      · rw [if_neg hji] at hz;exact h.seen j z hz
  · have main : ∀ k z, k ≠ 0 -> (if k = 0 then some (⟨fun b => x.F b \/ y.F b, x.Z, Gw.merge x y⟩ : View) else if k = i then none else vs k) = some z -> Apart ⟨fun b => x.F b \/ y.F b, x.Z, Gw.merge x y⟩ z := fun k z hk hz b U M => by
      rw [if_neg hk] at hz;by_cases hki:k=i
      · simp_all
      · rw [if_neg hki] at hz;by_cases hxF:x.F b
        · exact h.apart 0 k x z (Ne.symm hk) H hz b hxF M
        · have:=h.apart i k y z (Ne.symm hki) hi hz b (U.resolve_left hxF) M;simp_all
    by_cases hj:j=0
    · grind
    · by_cases hk:k=0
      · subst hk;rw [if_pos rfl] at hz';cases hz';exact (main j z hj hz).symm
      · rw [if_neg hj] at hz;rw [if_neg hk] at hz';by_cases hji:j=i
        · simp_all
        · rw [if_neg hji] at hz;by_cases hki:k=i
          · simp_all
          · rw [if_neg hki] at hz';exact h.apart j k z z' hjk hz hz'
  · rcases h.known e a ha hm with I | I | I | ⟨j,I,h5⟩
    · grind
    · simp_all
    · simp_all
    grind
  · by_cases hj:j=0
    · subst hj;rw [if_pos rfl] at hq;rw [G];rcases hq with hq | hq
      · exact O (h.pay e a ad ha hl hb 0 hq)
      · exact met e (h.pay e a ad ha hl hb i hq)
    · rw [if_neg hj] at hq;by_cases hji:j=i
      · simp_all
      · rw [if_neg hji] at hq;exact h.pay e a ad ha hl hb j hq
  · have key : ∀ k, k ≠ 0 -> (if k = 0 then Q 0 ad \/ Q i ad else if k = i then False else Q k ad) -> ¬ (Q 0 ad \/ Q i ad) := fun k hk hq h0' => by
      rw [if_neg hk] at hq;by_cases hki:k=i
      · simp_all
      · rw [if_neg hki] at hq;exact h0'.elim (h.qd k 0 ad hk hq) (h.qd k i ad hki hq)
    by_cases aa:j=0
    · grind
    · by_cases ab:k=0
      · grind
      · rw [if_neg aa] at hj;rw [if_neg ab] at hk;by_cases hji:j=i
        · simp_all
        · rw [if_neg hji] at hj;by_cases hki:k=i
          · simp_all
          · rw [if_neg hki] at hk;exact h.qd j k ad hjk hj hk
  · by_cases hj:j=0
    · grind
    · by_cases hji:j=i
      · simp_all
      · simp only [if_neg hj,if_neg hji] at hq ⊢;exact h.qs j ad hq
  · have out : ∀ e, Knows t 0 e -> t.g? e = some g -> ∃ j, t.g? j = some 0 /\ HappensBefore t e j := fun e ⟨q, z, U, M, V⟩ hge => by
      rcases V with rfl | V
      · grind [absurd,Trace.g?]
      grind [Trace.g?]
    rcases h.over e g hge hne hc with I | ⟨j,I,h5⟩
    · grind
    grind
  · rw [if_pos rfl] at J;cases J;by_cases hj:j=0
    · subst hj;rw [if_pos rfl] at hz;cases hz;exact .inl (hx.agr.zf b hbz)
    · rw [if_neg hj] at hz;by_cases hji:j=i
      · simp_all
      · rw [if_neg hji] at hz;exact .inl (h.mono j z x hz H b hbz)
end
end Go.Gw

end
