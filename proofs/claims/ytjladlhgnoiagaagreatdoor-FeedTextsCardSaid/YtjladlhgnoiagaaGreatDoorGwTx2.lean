/- Laws of the walk. Condition: each theorem says its own. -/
import Derived.Test.YtjladlhgnoiagaaGreatDoorGwPl
import Derived.Test.YtjladlhgnoiagaaGreatDoorGwFnZ
import Derived.Test.YtjladlhgnoiagaaGreatDoorGwLib21
import Derived.Lib.Bytealg
set_option linter.unusedVariables false
set_option linter.unusedSimpArgs false
set_option linter.unusedSectionVars false
open Go.Gw.Runs renaming some→Ea,call→Eb,callR→Ee,bif_t→Eg,bif_f→Ej,loop→Ew,eq→EK,jl→ER,jr→ES
open Int renaming tdiv_eq_ediv_of_nonneg→Ec,tmod_eq_emod_of_nonneg→Ed,toNat_natCast→Ei,tdiv→En,tmod→ET
open List renaming replicate→Ef,take_of_length_le→El,take_append_getElem→Eo,length_take→Eq_,map_append→Es,map_cons→Eu,getElem_mem→Ev,count_cons_self→Ez,drop_append_of_le_length→EC,eq_nil_of_length_eq_zero→ED,count_eq_zero→EF,append_assoc→EG,drop_eq_getElem_cons→EH,length_set→EI,cons→EJ,set_append_right→EM,count_cons_of_ne→EN,mem_cons_of_mem→EO,mem_of_mem_take→EP
open Nat renaming le_refl→Ek,div_div_eq_div_mul→Em,mod_lt→Ep,pow_add→Er,zero_le→Et,pow_le_pow_right→Ex,add_comm→Ey,le_div_iff_mul_le→EL,lt_or_ge→EQ
open Bool renaming or_eq_true→EA,or_eq_false_iff→EB
open Option renaming bind→EE
section
set_option maxRecDepth 4096
set_option linter.unusedVariables false
namespace Go.Gw
open Go
attribute [local irreducible] loop
theorem QGd (n:Int) (h:-9223372036854775807<=n/\n<=9223372036854775807):Qcj n=some ((n.natAbs:Nat):Int):=by
 unfold Qcj;rw [XZ (by omega)];split<;>(congr 1;omega)
theorem QIp (x:Int):(En x 10).natAbs=x.natAbs / 10/\(ET x 10).natAbs=x.natAbs % 10/\(0<=x->0<=En x 10)/\(x<=0->En x 10<=0):=by
 rcases Int.eq_nat_or_neg x with ⟨m,rfl | rfl⟩
 ·have h1:En (m:Int) 10=((m / 10:Nat):Int):=rfl;have h2:ET (m:Int) 10=((m % 10:Nat):Int):=rfl;rw [h1,h2];omega
 ·have h1:En (-(m:Int)) 10=-((m / 10:Nat):Int):=by rw [Int.neg_tdiv];rfl
  have h2:ET (-(m:Int)) 10=-((m % 10:Nat):Int):=by rw [Int.neg_tmod];rfl
  rw [h1,h2];omega
theorem Qpx {d:Nat} (h:d < 10):QD (YI ([IntKind.wrap .u8 (w64 (48+(d:Int)))]:List U8))=[48+(d:Int)]:=by
 rw [XZ (by omega),Go.IntWalk.u8_in _ (by omega)];refine Qmf (l:=[48+(d:Int)]) fun x hx=>?_;have hx:=List.mem_singleton.1 hx;subst hx;omega
theorem Qer {a b:ByteArray} (h:a.size+b.size<=1048576):ZF a b=some (a++b):=by unfold ZF;rw [if_pos h]
theorem decT_zero:YL 0=⟨#[48]⟩:=by
 refine JQ ?_;rw [Qbh];have:nd 0=1:=by rw [nd];rfl
 unfold Xw Ya;rw [if_neg (by decide)];show XT (nd 0) 0=_;rw [this];rfl
theorem Qvl {n:Int} (h:-9223372036854775808<=n/\n<=9223372036854775807):Qeg n=some (YL n):=by
  refine EK ?_;unfold Qeg;by_cases h0:n=0
  · subst h0;exact Eg rfl (Ea decT_zero.symm)
  refine Ej (decide_eq_false h0) (Ee (R:=fun s=>QD s=if n < 0 then [45] else []) ?_ ?_)
  · refine Runs.bif (fun hb=>Ea ?_) (fun hb=>Ea ?_)
    · rw [if_pos (of_decide_eq_true hb)];rfl
    · rw [if_neg (of_decide_eq_false hb)];rfl
  intro sg hsg;obtain ⟨N,hN⟩:∃ N,N=n.natAbs:=⟨_,rfl⟩;have hN1:1<=N:=by omega
  have hN2:N < 10 ^ 19:=by omega
  refine Ee (R:=fun s=>QD s=Ya N) (Ew (fun s=>∃ j:Nat,s.1.natAbs=N / 10 ^ j/\QD s.2=XT j N/\(j=0\/10 ^ (j - 1)<=N)/\(j=0->s.1=n)/\s.1.natAbs<=9223372036854775808/\(s.1=-9223372036854775808->j=0)) (fun s=>s.1.natAbs) ⟨0,by simp [hN],rfl,.inl rfl,fun _=>rfl,by show n.natAbs<=_;omega,fun _=>rfl⟩ ?_) ?_
  · rintro ⟨x,s⟩ ⟨j,h1,h2,h3,h4,h5,h6⟩;dsimp only at h1 h2 h4 h5 h6;unfold Qls;have hj:j<=19:=by
      rcases h3 with h3 | h3
      · omega
      · rcases EQ 19 j with hlt | hge
        · have:=Ex (show 0 < 10 by decide) (show 19<=j - 1 by omega);omega
        · exact hge
    by_cases hx:x=0
    · subst hx;refine Ej rfl (Ea ?_);have hlt:N < 10 ^ j:=by
        rcases EQ N (10 ^ j) with h | h
        · exact h
        · have:1<=N / 10 ^ j:=(EL (Nat.pow_pos (by decide))).2 (by omega);simp at h1;omega
      have hj0:j≠0:=fun e=>by subst e;simp at hlt;omega
      show QD s=Ya N;have:nd N=j:=Qal (by omega) hlt (.inr (h3.resolve_left hj0));unfold Ya;rw [this];exact h2
    · obtain ⟨t1,t2,t3,t4⟩:=QIp x;have hs:Qcj (ET x 10)=some (((x.natAbs % 10:Nat)):Int):=by rw [<-t2];exact QGd _ (by omega)
      have hsz:s.size=j:=by rw [<-YA,h2,JS]
      have hob:(YI ([IntKind.wrap .u8 (w64 (48+((x.natAbs % 10:Nat):Int)))]:List U8)).size=1:=by rw [<-YA,Qpx (Ep _ (by decide))];rfl
      refine Eg (by simp [hx]) (Eb hs (Eb (Qer (by omega)) (Ea ⟨⟨j+1,?_,?_,.inr ?_,fun h=>absurd h (by omega),?_,fun h=>?_⟩,?_⟩)))
      · show (w64 (En x 10)).natAbs=_;rw [XZ (by omega),t1,h1,Em,Nat.pow_succ]
      · show QD (_++s)=_;rw [Qem,Qpx (Ep _ (by decide)),h2,JR,h1];rfl
      · rw [Nat.add_sub_cancel];rcases EQ N (10 ^ j) with h | h
        · rw [Nat.div_eq_of_lt h] at h1;omega
        · exact h
      · show (w64 (En x 10)).natAbs<=_;rw [XZ (by omega)];omega
      · exfalso;have h:w64 (En x 10)=_:=h;rw [XZ (by omega)] at h;omega
      · show (w64 (En x 10)).natAbs < x.natAbs;rw [XZ (by omega)];omega
  · intro s hs;have e1:sg.size<=1:=by rw [<-YA,hsg];split<;>simp
    have e2:s.size<=19:=by rw [<-YA,hs];unfold Ya;rw [JS];exact Qfu (by decide) hN2
    refine Eb (Qer (by omega)) (Ea (JQ ?_));rw [Qem,hsg,hs,Qbh,hN];unfold Xw;split<;>rfl
end Go.Gw

end
section
set_option maxRecDepth 8192
set_option linter.unusedVariables false
namespace Go.Gw
open Go
attribute [local irreducible] loop
/-! ### How many digits -/
theorem QBg:∀ k:Fin 256,(match idx (α:=Int) (bl (ByteArray.mk #[0,1,2,2,3,3,3,3,4,4,4,4,4,4,4,4,5,5,5,5,5,5,5,5,5,5,5,5,5,5,5,5,6,6,6,6,6,6,6,6,6,6,6,6,6,6,6,6,6,6,6,6,6,6,6,6,6,6,6,6,6,6,6,6,7,7,7,7,7,7,7,7,7,7,7,7,7,7,7,7,7,7,7,7,7,7,7,7,7,7,7,7,7,7,7,7,7,7,7,7,7,7,7,7,7,7,7,7,7,7,7,7,7,7,7,7,7,7,7,7,7,7,7,7,7,7,7,7,8,8,8,8,8,8,8,8,8,8,8,8,8,8,8,8,8,8,8,8,8,8,8,8,8,8,8,8,8,8,8,8,8,8,8,8,8,8,8,8,8,8,8,8,8,8,8,8,8,8,8,8,8,8,8,8,8,8,8,8,8,8,8,8,8,8,8,8,8,8,8,8,8,8,8,8,8,8,8,8,8,8,8,8,8,8,8,8,8,8,8,8,8,8,8,8,8,8,8,8,8,8,8,8,8,8,8,8,8,8,8,8,8,8,8,8,8,8,8,8,8,8,8,8,8,8,8,8])) ((k.val:Nat):Int) with
  | some v=>decide (k.val=0\/(1<=v/\v<=8/\2 ^ (v.toNat - 1)<=k.val/\k.val < 2 ^ v.toNat))
  | none=>false)=true:=by decide +kernel
theorem Qou {z:Nat} (h1:1<=z) (h:z < 256):∃ v:Nat,idx (α:=Int) (bl (ByteArray.mk #[0,1,2,2,3,3,3,3,4,4,4,4,4,4,4,4,5,5,5,5,5,5,5,5,5,5,5,5,5,5,5,5,6,6,6,6,6,6,6,6,6,6,6,6,6,6,6,6,6,6,6,6,6,6,6,6,6,6,6,6,6,6,6,6,7,7,7,7,7,7,7,7,7,7,7,7,7,7,7,7,7,7,7,7,7,7,7,7,7,7,7,7,7,7,7,7,7,7,7,7,7,7,7,7,7,7,7,7,7,7,7,7,7,7,7,7,7,7,7,7,7,7,7,7,7,7,7,7,8,8,8,8,8,8,8,8,8,8,8,8,8,8,8,8,8,8,8,8,8,8,8,8,8,8,8,8,8,8,8,8,8,8,8,8,8,8,8,8,8,8,8,8,8,8,8,8,8,8,8,8,8,8,8,8,8,8,8,8,8,8,8,8,8,8,8,8,8,8,8,8,8,8,8,8,8,8,8,8,8,8,8,8,8,8,8,8,8,8,8,8,8,8,8,8,8,8,8,8,8,8,8,8,8,8,8,8,8,8,8,8,8,8,8,8,8,8,8,8,8,8,8,8,8,8,8,8])) (z:Int)=some (v:Int)/\1<=v/\v<=8/\2 ^ (v - 1)<=z/\z < 2 ^ v:=by
 have:=QBg ⟨z,h⟩;dsimp only at this;cases hq:idx (α:=Int) (bl (ByteArray.mk #[0,1,2,2,3,3,3,3,4,4,4,4,4,4,4,4,5,5,5,5,5,5,5,5,5,5,5,5,5,5,5,5,6,6,6,6,6,6,6,6,6,6,6,6,6,6,6,6,6,6,6,6,6,6,6,6,6,6,6,6,6,6,6,6,7,7,7,7,7,7,7,7,7,7,7,7,7,7,7,7,7,7,7,7,7,7,7,7,7,7,7,7,7,7,7,7,7,7,7,7,7,7,7,7,7,7,7,7,7,7,7,7,7,7,7,7,7,7,7,7,7,7,7,7,7,7,7,7,8,8,8,8,8,8,8,8,8,8,8,8,8,8,8,8,8,8,8,8,8,8,8,8,8,8,8,8,8,8,8,8,8,8,8,8,8,8,8,8,8,8,8,8,8,8,8,8,8,8,8,8,8,8,8,8,8,8,8,8,8,8,8,8,8,8,8,8,8,8,8,8,8,8,8,8,8,8,8,8,8,8,8,8,8,8,8,8,8,8,8,8,8,8,8,8,8,8,8,8,8,8,8,8,8,8,8,8,8,8,8,8,8,8,8,8,8,8,8,8,8,8,8,8,8,8,8,8])) (z:Int) with
 | none=>rw [hq] at this;cases this
 | some v =>
  rw [hq] at this;have:=of_decide_eq_true this;rcases this with h0 | ⟨g1,g2,g3,g4⟩
  ·omega
  ·exact ⟨v.toNat,by congr 1;omega,by omega,by omega,g3,g4⟩
theorem Qqh {x c z v:Nat} (hz:z=x / 2 ^ c) (h1:1<=v) (h2:2 ^ (v - 1)<=z) (h3:z < 2 ^ v):2 ^ (c+v - 1)<=x/\x < 2 ^ (c+v):=by
 have hp:0 < 2 ^ c:=Nat.pow_pos (by decide);constructor
 ·have:=(EL hp).1 (hz▸h2);rw [<-Er] at this;rwa [show c+v - 1=v - 1+c by omega]
 ·rw [hz] at h3;have:=(Nat.div_lt_iff_lt_mul hp).1 h3;rw [<-Er] at this;rwa [Ey]
theorem Qka (k:Nat) (a:Nat) (h:k<=64):JA .u64 (a:Int) (k:Int)=some ((a / 2 ^ k:Nat):Int):=by
 unfold JA;rw [if_pos ⟨by omega,by show (k:Int)<=((64:Nat):Int);omega⟩,Ei];rw [show (2:Int) ^ k=((2 ^ k:Nat):Int) by simp,Int.ofNat_fdiv]
theorem QBf {x:Nat} (h1:1<=x) (h:x < 2 ^ 64):∃ L:Nat,Qcw (x:Int)=some (L:Int)/\1<=L/\L<=64/\2 ^ (L - 1)<=x/\x < 2 ^ L:=by
 have key:Runs (Qcw (x:Int)) fun q=>∃ L:Nat,q=(L:Int)/\1<=L/\L<=64/\2 ^ (L - 1)<=x/\x < 2 ^ L:=by
  unfold Qcw;refine Ee (R:=fun s=>∃ A B:Nat,s=((A:Int),(B:Int))/\A=x / 2 ^ B/\1<=A/\A < 2 ^ 32/\B<=32) (Runs.bif (fun hb=>?_) (fun hb=>?_)) ?_
  ·have:=of_decide_eq_true hb;exact Eb (Qka 32 x (by decide)) (Ea ⟨x / 2 ^ 32,32,rfl,rfl,by omega,by omega,Ek _⟩)
  ·have:=of_decide_eq_false hb;exact Ea ⟨x,0,rfl,by simp,by omega,by omega,by decide⟩
  rintro _ ⟨A,B,rfl,hA,hA1,hA2,hB⟩;refine Ee (R:=fun s=>∃ C D:Nat,s=((C:Int),(D:Int))/\C=x / 2 ^ D/\1<=C/\C < 2 ^ 16/\D<=48) (Runs.bif (fun hb=>?_) (fun hb=>?_)) ?_
  ·have:=of_decide_eq_true hb;refine Eb (Qka 16 A (by decide)) (Ea ⟨A / 2 ^ 16,B+16,?_,?_,by omega,by omega,by omega⟩)
   ·rw [XZ (by omega)];rfl
   ·rw [hA,Em,<-Er]
  ·have:=of_decide_eq_false hb;exact Ea ⟨A,B,rfl,hA,hA1,by omega,by omega⟩
  rintro _ ⟨C,D,rfl,hC,hC1,hC2,hD⟩;refine Runs.bif (fun hb=>?_) (fun hb=>?_)
  ·have:=of_decide_eq_true hb;have hz:C / 2 ^ 8=x / 2 ^ (D+8):=by rw [hC,Em,<-Er]
   obtain ⟨v,e,v1,v2,v3,v4⟩:=Qou (z:=C / 2 ^ 8) (by omega) (by omega);obtain ⟨p1,p2⟩:=Qqh hz v1 v3 v4;refine Eb (Qka 8 C (by decide)) (Eb (b:=(v:Int)) ?_ (Ea ⟨D+8+v,?_,by omega,by omega,p1,p2⟩))
   ·rw [Go.IntWalk.u8_in _ (by omega)];exact e
   ·rw [XZ (x:=(v:Int)) (by omega),XZ (x:=(D:Int)+8) (by omega),XZ (by omega)];rfl
  ·have:=of_decide_eq_false hb;obtain ⟨v,e,v1,v2,v3,v4⟩:=Qou (z:=C) (by omega) (by omega);obtain ⟨p1,p2⟩:=Qqh hC v1 v3 v4;refine Eb (b:=(v:Int)) ?_ (Ea ⟨D+v,?_,by omega,by omega,p1,p2⟩)
   ·rw [Go.IntWalk.u8_in _ (by omega)];exact e
   ·rw [XZ (x:=(v:Int)) (by omega),XZ (by omega)];rfl
 obtain ⟨q,hq,L,rfl,hL⟩:=key;exact ⟨L,hq,hL⟩
theorem QBh:∀ L:Fin 65,(match Qfn ((L.val:Nat):Int) with
  | some r=>decide (L.val=0\/(0<=r/\r < 20/\2 ^ L.val<=10 ^ (r.toNat+1)/\(r.toNat=0\/10 ^ (r.toNat - 1)<=2 ^ (L.val - 1))))
  | none=>false)=true:=by decide +kernel
theorem QIq:∀ r:Fin 20,idx ([1,10,100,1000,10000,100000,1000000,10000000,100000000,1000000000,10000000000,100000000000,1000000000000,10000000000000,100000000000000,1000000000000000,10000000000000000,100000000000000000,1000000000000000000,10000000000000000000]:List Int) ((r.val:Nat):Int)=some (((10 ^ r.val:Nat)):Int):=by decide +kernel
theorem QEj {d:Nat} (h1:1<=d) (h:d < 2 ^ 64):Qfo (d:Int)=some ((nd d:Nat):Int):=by
 obtain ⟨L,hL,L1,L2,L3,L4⟩:=QBf h1 h;have hr:=QBh ⟨L,by omega⟩;dsimp only at hr;cases hq:Qfn (L:Int) with
 | none=>rw [hq] at hr;cases hr
 | some r =>
  rw [hq] at hr;rcases of_decide_eq_true hr with h0 | ⟨r0,r1,r2,r3⟩
  ·omega
  obtain ⟨k,rfl⟩:∃ k:Nat,r=(k:Int):=⟨r.toNat,by omega⟩;rw [Ei] at r2 r3;have ht:=QIq ⟨k,by omega⟩;dsimp only at ht;refine EK ?_;unfold Qfo;refine Eb hL (Eb hq (Eb ht ?_));by_cases hd:10 ^ k<=d
  ·have hn:nd d=k+1:=Qal (by omega) (by omega) (.inr hd);refine Eb (b:=(1:Int)) ?_ (Ea ?_)
   ·unfold Qfm;rw [decide_eq_true (by omega)];rfl
   ·rw [XZ (by omega),hn];rfl
  ·have hk:k≠0:=fun e=>by subst e;simp at hd;omega
   have hn:nd d=k:=Qal (by omega) (by omega) (.inr (Nat.le_trans (r3.resolve_left hk) L3));refine Eb (b:=(0:Int)) ?_ (Ea ?_)
   ·unfold Qfm;rw [decide_eq_false (by omega)];rfl
   ·rw [XZ (by omega),hn];simp
/-! ### Two digits at a time -/
theorem QIv:∀ z:Fin 100,idx (α:=Int) (bl (ByteArray.mk #[48,48,48,49,48,50,48,51,48,52,48,53,48,54,48,55,48,56,48,57,49,48,49,49,49,50,49,51,49,52,49,53,49,54,49,55,49,56,49,57,50,48,50,49,50,50,50,51,50,52,50,53,50,54,50,55,50,56,50,57,51,48,51,49,51,50,51,51,51,52,51,53,51,54,51,55,51,56,51,57,52,48,52,49,52,50,52,51,52,52,52,53,52,54,52,55,52,56,52,57,53,48,53,49,53,50,53,51,53,52,53,53,53,54,53,55,53,56,53,57,54,48,54,49,54,50,54,51,54,52,54,53,54,54,54,55,54,56,54,57,55,48,55,49,55,50,55,51,55,52,55,53,55,54,55,55,55,56,55,57,56,48,56,49,56,50,56,51,56,52,56,53,56,54,56,55,56,56,56,57,57,48,57,49,57,50,57,51,57,52,57,53,57,54,57,55,57,56,57,57])) (2 * ((z.val:Nat):Int)+1)=some (48+((z.val % 10:Nat):Int))/\idx (α:=Int) (bl (ByteArray.mk #[48,48,48,49,48,50,48,51,48,52,48,53,48,54,48,55,48,56,48,57,49,48,49,49,49,50,49,51,49,52,49,53,49,54,49,55,49,56,49,57,50,48,50,49,50,50,50,51,50,52,50,53,50,54,50,55,50,56,50,57,51,48,51,49,51,50,51,51,51,52,51,53,51,54,51,55,51,56,51,57,52,48,52,49,52,50,52,51,52,52,52,53,52,54,52,55,52,56,52,57,53,48,53,49,53,50,53,51,53,52,53,53,53,54,53,55,53,56,53,57,54,48,54,49,54,50,54,51,54,52,54,53,54,54,54,55,54,56,54,57,55,48,55,49,55,50,55,51,55,52,55,53,55,54,55,55,55,56,55,57,56,48,56,49,56,50,56,51,56,52,56,53,56,54,56,55,56,56,56,57,57,48,57,49,57,50,57,51,57,52,57,53,57,54,57,55,57,56,57,57])) (2 * ((z.val:Nat):Int))=some (48+((z.val / 10:Nat):Int)):=by decide +kernel
theorem Qan {α:Type} {F:Int->Int->Option α} {Q:α->Prop} {z i:Nat} {a:List Int} {e1 e0 p1 p0:Int} (hz:z < 100) (he1:e1=2 * (z:Int)+1) (he0:e0=2 * (z:Int)) (hp1:p1=((i+1:Nat):Int)) (hp0:p0=(i:Int)) (hl:i+1 < a.length)
  (h:Runs (F (48+((z % 10:Nat):Int)) (48+((z / 10:Nat):Int))) Q) :
  Runs (EE (idx (α:=Int) (bl (ByteArray.mk #[48,48,48,49,48,50,48,51,48,52,48,53,48,54,48,55,48,56,48,57,49,48,49,49,49,50,49,51,49,52,49,53,49,54,49,55,49,56,49,57,50,48,50,49,50,50,50,51,50,52,50,53,50,54,50,55,50,56,50,57,51,48,51,49,51,50,51,51,51,52,51,53,51,54,51,55,51,56,51,57,52,48,52,49,52,50,52,51,52,52,52,53,52,54,52,55,52,56,52,57,53,48,53,49,53,50,53,51,53,52,53,53,53,54,53,55,53,56,53,57,54,48,54,49,54,50,54,51,54,52,54,53,54,54,54,55,54,56,54,57,55,48,55,49,55,50,55,51,55,52,55,53,55,54,55,55,55,56,55,57,56,48,56,49,56,50,56,51,56,52,56,53,56,54,56,55,56,56,56,57,57,48,57,49,57,50,57,51,57,52,57,53,57,54,57,55,57,56,57,57])) e1) fun el1=>EE (idx (α:=Int) (bl (ByteArray.mk #[48,48,48,49,48,50,48,51,48,52,48,53,48,54,48,55,48,56,48,57,49,48,49,49,49,50,49,51,49,52,49,53,49,54,49,55,49,56,49,57,50,48,50,49,50,50,50,51,50,52,50,53,50,54,50,55,50,56,50,57,51,48,51,49,51,50,51,51,51,52,51,53,51,54,51,55,51,56,51,57,52,48,52,49,52,50,52,51,52,52,52,53,52,54,52,55,52,56,52,57,53,48,53,49,53,50,53,51,53,52,53,53,53,54,53,55,53,56,53,57,54,48,54,49,54,50,54,51,54,52,54,53,54,54,54,55,54,56,54,57,55,48,55,49,55,50,55,51,55,52,55,53,55,54,55,55,55,56,55,57,56,48,56,49,56,50,56,51,56,52,56,53,56,54,56,55,56,56,56,57,57,48,57,49,57,50,57,51,57,52,57,53,57,54,57,55,57,56,57,57])) e0) fun el0=>EE (idx (α:=Int) a p1) fun _=>EE (idx (α:=Int) (a.set p1.toNat el1) p0) fun _=>F el1 el0) Q:=by
 subst he1 he0 hp1 hp0;obtain ⟨t1,t2⟩:=QIv ⟨z,hz⟩;exact Eb t1 (Eb t2 (Eb (Jb hl) (Eb (Jb (by simp;omega)) h)))
theorem Qas (i:Nat) (tail:List Int) (d0 d1:Int):((Ef (i+2) (0:Int)++tail).set (i+1) d1).set i d0=Ef i 0++(d0::d1::tail):=by
 rw [show Ef (i+2) (0:Int)=Ef i 0++[0,0] by rw [<-List.replicate_append_replicate];rfl,EG];rw [EM _ _ (by simp),EM _ _ (by simp)];simp
theorem Qad {j U u:Nat} (h:u=U / 10 ^ j):XT (j+2) U=(48+((u % 100 / 10:Nat):Int))::(48+((u % 100 % 10:Nat):Int))::XT j U/\u / 100=U / 10 ^ (j+2):=by
 have e:U / 10 ^ (j+1)=u / 10:=by rw [h,Em,<-Nat.pow_succ]
 refine ⟨?_,by rw [h,Em,Er]⟩;rw [JR,JR,e,<-h];rw [show u % 100 / 10=u / 10 % 10 by omega,show u % 100 % 10=u % 10 by omega]
end Go.Gw

end
section
set_option maxRecDepth 8192
set_option linter.unusedVariables false
namespace Go.Gw
open Go
attribute [local irreducible] loop
theorem Qvm {U u j:Nat} (h:u=U / 10 ^ j):u / 100000000=U / 10 ^ (j+8):=by
 rw [h,Em,Er]
theorem QFy (m:Nat) (tail:List Int) (x1 x2 x3 x4 x5 x6 x7 x8:Int):((((((((Ef (m+8) (0:Int)++tail).set (m+7) x1).set (m+6) x2).set (m+5) x3).set (m+4) x4).set (m+3) x5).set (m+2) x6).set (m+1) x7).set m x8=Ef m 0++(x8::x7::x6::x5::x4::x3::x2::x1::tail):=by
 rw [Qas (m+6) tail x2 x1,Qas (m+4) _ x4 x3,Qas (m+2) _ x6 x5,Qas m _ x8 x7]
theorem QFx (m:Nat) (tail:List Int) (x1 x2 x3 x4:Int):((((Ef (m+4) (0:Int)++tail).set (m+3) x1).set (m+2) x2).set (m+1) x3).set m x4=Ef m 0++(x4::x3::x2::x1::tail):=by
 rw [Qas (m+2) tail x2 x1,Qas m _ x4 x3]
theorem Y6 {l:List Int} {i j:Nat} {x:Int} (h:j < l.length):j < (l.set i x).length:=by simpa using h
theorem Jy {m k:Nat} {l:List Int} (h:k < m):k < (Ef m (0:Int)++l).length:=by simp;omega
theorem Qzq {N U:Nat} (hN:N<=22) (hU:U < 2 ^ 64):Runs (loop Qiy (Ef N (0:Int),(U:Int),((Ef N (0:Int)).length:Int))) (fun s=>∃ i j:Nat,s=((Ef i (0:Int)++XT j U:List Int),((U / 10 ^ j:Nat):Int),(i:Int))/\i+j=N/\i < 8):=by
 refine Ew (fun s=>∃ i j:Nat,s=((Ef i (0:Int)++XT j U:List Int),((U / 10 ^ j:Nat):Int),(i:Int))/\i+j=N) (fun s=>s.2.2.toNat) ⟨N,0,by rw [List.length_replicate,Nat.pow_zero,Nat.div_one];exact Prod.ext (List.append_nil _).symm rfl,by omega⟩ ?_;rintro _ ⟨i,j,rfl,hij⟩;have hu:U / 10 ^ j<=U:=Nat.div_le_self _ _;obtain ⟨u,hu0⟩:∃ u,u=U / 10 ^ j:=⟨_,rfl⟩;rw [<-hu0];rw [<-hu0] at hu;unfold Qiy;by_cases hi:8<=i
 ·obtain ⟨m,rfl⟩:∃ m,i=m+8:=⟨i - 8,by omega⟩;have hw:∀ k:Nat,k<=8->w64 (((m+8:Nat):Int) - (k:Int))=((m+8 - k:Nat):Int):=fun k hk=>by rw [XZ (by omega)];omega
  obtain ⟨a1,b1⟩:=Qad hu0;obtain ⟨a2,b2⟩:=Qad b1;obtain ⟨a3,b3⟩:=Qad b2;obtain ⟨a4,b4⟩:=Qad b3;refine Eg (decide_eq_true (by omega)) ?_;refine Qan (z:=u % 100) (i:=m+6) (Ep _ (by decide)) ?_ ?_ (hw 1 (by decide)) (hw 2 (by decide)) (Jy (by omega)) ?_
  ·simp (disch:=omega) only [Ed,Ec,IntKind.wrap_u32];omega
  ·simp (disch:=omega) only [Ed,Ec,IntKind.wrap_u32];omega
  refine Qan (z:=u / 100 % 100) (i:=m+4) (Ep _ (by decide)) ?_ ?_ (hw 3 (by decide)) (hw 4 (by decide)) (Y6 (Y6 (Jy (by omega)))) ?_
  ·simp (disch:=omega) only [Ed,Ec,IntKind.wrap_u32];omega
  ·simp (disch:=omega) only [Ed,Ec,IntKind.wrap_u32];omega
  refine Qan (z:=u / 100 / 100 % 100) (i:=m+2) (Ep _ (by decide)) ?_ ?_ (hw 5 (by decide)) (hw 6 (by decide)) (Y6 (Y6 (Y6 (Y6 (Jy (by omega)))))) ?_
  ·simp (disch:=omega) only [Ed,Ec,IntKind.wrap_u32];omega
  ·simp (disch:=omega) only [Ed,Ec,IntKind.wrap_u32];omega
  refine Qan (z:=u / 100 / 100 / 100 % 100) (i:=m) (Ep _ (by decide)) ?_ ?_ (hw 7 (by decide)) (hw 8 (by decide)) (Y6 (Y6 (Y6 (Y6 (Y6 (Y6 (Jy (by omega)))))))) ?_
  ·simp (disch:=omega) only [Ed,Ec,IntKind.wrap_u32];omega
  ·simp (disch:=omega) only [Ed,Ec,IntKind.wrap_u32];omega
  refine Ea ⟨⟨m,j+8,?_,by omega⟩,?_⟩
  ·have e1:=hw 1 (by decide);have e2:=hw 2 (by decide);have e3:=hw 3 (by decide);have e4:=hw 4 (by decide);have e5:=hw 5 (by decide);have e6:=hw 6 (by decide);have e7:=hw 7 (by decide);have e8:=hw 8 (by decide);refine Prod.ext ?_ (Prod.ext ?_ ?_)
   ·dsimp only;rw [show (((1:Nat):Int))=1 from rfl] at e1;rw [show (((2:Nat):Int))=2 from rfl] at e2;rw [show (((3:Nat):Int))=3 from rfl] at e3;rw [show (((4:Nat):Int))=4 from rfl] at e4;rw [show (((5:Nat):Int))=5 from rfl] at e5;rw [show (((6:Nat):Int))=6 from rfl] at e6;rw [show (((7:Nat):Int))=7 from rfl] at e7;rw [show (((8:Nat):Int))=8 from rfl] at e8;rw [e1,e2,e3,e4,e5,e6,e7,e8];simp only [Ei];exact (QFy m (XT j U) _ _ _ _ _ _ _ _).trans (by rw [show j+8=j+2+2+2+2 from rfl,a4,a3,a2,a1])
   ·show IntKind.wrap .u64 (En (u:Int) 100000000)=_;rw [<-Qvm hu0,show En (u:Int) 100000000=((u / 100000000:Nat):Int) from rfl,Go.IntWalk.u64_in _ (by omega)]
   ·show w64 (((m+8:Nat):Int) - 8)=(m:Int);rw [XZ (by omega)];omega
  ·show (w64 (((m+8:Nat):Int) - ((8:Nat):Int))).toNat < (((m+8:Nat):Int)).toNat;rw [hw 8 (by decide),Ei,Ei];omega
 ·refine Ej (decide_eq_false (by omega)) (Ea ⟨i,j,?_,hij,by omega⟩);rw [hu0];rfl
theorem Qsj {U N i j u:Nat} (h:U < 10 ^ N) (hij:i+j=N) (hu:u=U / 10 ^ j):u < 10 ^ i:=by
 rw [hu];refine Nat.div_lt_of_lt_mul ?_;rw [<-Er,Ey j i,hij];exact h
theorem Qzp {N U:Nat} (hN:N<=22) (hU:U < 2 ^ 64) (h10:U < 10 ^ N):Qcv (Ef N (0:Int)) (U:Int)=some (XT N U:List Int):=by
  refine EK ?_;unfold Qcv;refine Ee (Qzq hN hU) ?_;rintro _ ⟨i,j,rfl,hij,hi⟩;obtain ⟨u,hu0⟩:∃ u,u=U / 10 ^ j:=⟨_,rfl⟩;rw [<-hu0];have hu:=Qsj h10 hij hu0;have hu7:u < 10 ^ 7:=Nat.lt_of_lt_of_le hu (Ex (by decide) (by omega));refine Ee (R:=fun s=>∃ i j u:Nat,s=((Ef i (0:Int)++XT j U:List Int),(i:Int),(u:Int))/\i+j=N/\i < 4/\u=U / 10 ^ j) (Runs.bif (fun hb=>?_) (fun hb=>?_)) ?_
  · obtain ⟨m,rfl⟩:∃ m,i=m+4:=⟨i - 4,by have:=of_decide_eq_true hb;omega⟩;have hw:∀ k:Nat,k<=4->w64 (((m+4:Nat):Int) - (k:Int))=((m+4 - k:Nat):Int):=fun k hk=>by rw [XZ (by omega)];omega
    obtain ⟨a1,b1⟩:=Qad hu0;obtain ⟨a2,b2⟩:=Qad b1;refine Qan (z:=u % 100) (i:=m+2) (Ep _ (by decide)) ?_ ?_ (hw 1 (by decide)) (hw 2 (by decide)) (Jy (by omega)) ?_
    · simp (disch:=omega) only [Ed,Ec,IntKind.wrap_u32];omega
    · simp (disch:=omega) only [Ed,Ec,IntKind.wrap_u32];omega
    refine Qan (z:=u / 100 % 100) (i:=m) (Ep _ (by decide)) ?_ ?_ (hw 3 (by decide)) (hw 4 (by decide)) (Y6 (Y6 (Jy (by omega)))) ?_
    · simp (disch:=omega) only [Ed,Ec,IntKind.wrap_u32];omega
    · simp (disch:=omega) only [Ed,Ec,IntKind.wrap_u32];omega
    refine Ea ⟨m,j+4,u / 10000,?_,by omega,by omega,?_⟩
    · have e1:=hw 1 (by decide);have e2:=hw 2 (by decide);have e3:=hw 3 (by decide);have e4:=hw 4 (by decide);refine Prod.ext ?_ (Prod.ext ?_ ?_)
      · dsimp only;rw [show (((1:Nat):Int))=1 from rfl] at e1;rw [show (((2:Nat):Int))=2 from rfl] at e2;rw [show (((3:Nat):Int))=3 from rfl] at e3;rw [show (((4:Nat):Int))=4 from rfl] at e4;rw [e1,e2,e3,e4];simp only [Ei];exact (QFx m (XT j U) _ _ _ _).trans (by rw [show j+4=j+2+2 from rfl,a2,a1])
      · show w64 (((m+4:Nat):Int) - 4)=(m:Int);rw [XZ (by omega)];omega
      · show IntKind.wrap .u32 (En (IntKind.wrap .u32 (u:Int)) 10000)=((u / 10000:Nat):Int);simp (disch:=omega) only [Ed,Ec,IntKind.wrap_u32];omega
    · rw [show u / 10000=u / 100 / 100 by omega,b2]
  · refine Ea ⟨i,j,u,?_,hij,by have:=of_decide_eq_false hb;omega,hu0⟩;rw [Go.IntWalk.u32_in _ (by omega)];rfl
  clear hu hu0 hu7 hi hij u i j;rintro _ ⟨i,j,u,rfl,hij,hi,hu0⟩;have hu:=Qsj h10 hij hu0;refine Runs.bif (fun hb=>?_) (fun hb=>Runs.bif (fun hb'=>?_) (fun hb'=>?_))
  · obtain ⟨m,rfl⟩:∃ m,i=m+2:=⟨i - 2,by have:=of_decide_eq_true hb;omega⟩;have hm:m=0\/m=1:=by omega
    have hu3:u < 1000:=by rcases hm with rfl | rfl<;>omega
    have hw:∀ k:Nat,k<=2->w64 (((m+2:Nat):Int) - (k:Int))=((m+2 - k:Nat):Int):=fun k hk=>by rw [XZ (by omega)];omega
    obtain ⟨a1,b1⟩:=Qad hu0;refine Qan (z:=u % 100) (i:=m) (Ep _ (by decide)) ?_ ?_ (hw 1 (by decide)) (hw 2 (by decide)) (Jy (by omega)) ?_
    · simp (disch:=omega) only [Ed,Ec,IntKind.wrap_u32];omega
    · simp (disch:=omega) only [Ed,Ec,IntKind.wrap_u32];omega
    have e1:=hw 1 (by decide);have e2:=hw 2 (by decide);rw [show (((1:Nat):Int))=1 from rfl] at e1;rw [show (((2:Nat):Int))=2 from rfl] at e2;rw [e1,e2];have hs:(((Ef (m+2) (0:Int)++XT j U).set (m+1) (48+((u % 100 % 10:Nat):Int))).set m (48+((u % 100 / 10:Nat):Int)))=Ef m 0++XT (j+2) U:=by rw [Qas,a1]
    rcases hm with rfl | rfl
    · refine Ej rfl (Ea ?_);refine hs.trans ?_;rw [<-hij,Nat.zero_add,Ey];rfl
    · refine Eg rfl (Ee (R:=fun _=>True) ⟨_,Jb (k:=0) (Y6 (Y6 (Jy (by omega)))),trivial⟩ (fun _ _=>Ea ?_));have hv:IntKind.wrap .u8 (IntKind.wrap .u32 (48+IntKind.wrap .u32 (En (u:Int) 100)))=48+((u / 100:Nat):Int):=by
        simp (disch:=omega) only [Ec,IntKind.wrap_u32,IntKind.wrap_u8];omega
      rw [hv];refine (congrArg (fun l:List Int=>l.set 0 _) hs).trans ?_;rw [<-hij,show 1+2+j=j+2+1 by omega,JR (j+2) U,<-b1,Nat.mod_eq_of_lt (show u / 100 < 10 by omega)];rfl
  · obtain rfl:i=1:=by have:=of_decide_eq_false hb;have:=of_decide_eq_true hb';omega
    refine Ee (R:=fun _=>True) ⟨_,Jb (k:=0) (Jy (by omega)),trivial⟩ (fun _ _=>Ea ?_);have hu1:u < 10:=by simpa using hu
    have hv:IntKind.wrap .u8 (IntKind.wrap .u32 (48+(u:Int)))=48+(u:Int):=by
      simp only [IntKind.wrap_u32,IntKind.wrap_u8];omega
    rw [hv];show (48+(u:Int))::XT j U=XT N U;rw [<-hij,Ey 1 j,JR,<-hu0,Nat.mod_eq_of_lt hu1]
  · obtain rfl:i=0:=by have:=of_decide_eq_false hb';omega
    refine Ea ?_;show XT j U=XT N U;rw [<-hij,Nat.zero_add]
/-! ### The text -/
theorem QHb:∀ n:Fin 100,Qfp ((n.val:Nat):Int)=some (YI (XT (if n.val < 10 then 1 else 2) n.val)):=by decide +kernel
theorem Qvj (n:Nat):YL (n:Int)=YI (Ya n):=by
 unfold YL Xw;rw [if_neg (by omega),Int.natAbs_natCast]
theorem QHa {n:Nat} (h:n < 100):Qfp (n:Int)=some (YL (n:Int)):=by
 have h1:=QHb ⟨n,h⟩;have h2:nd n=if n < 10 then 1 else 2:=by
  by_cases h1:n < 10
  ·rw [if_pos h1,Qal (k:=1) (by decide) (by omega) (.inl rfl)]
  ·rw [if_neg h1,Qal (k:=2) (by decide) (by omega) (.inr (by omega))]
 rw [Qvj,Ya,h2];exact h1
theorem Qtl {n:Int} (h:-9223372036854775808<=n/\n<=9223372036854775807):JX n=((n.natAbs:Nat):Int):=by
 unfold JX;simp only [IntKind.wrap_u64];by_cases h0:n < 0
 ·rw [decide_eq_true h0,cond_true];omega
 ·rw [decide_eq_false h0,cond_false];omega
theorem Qor {n:Int} (h:-9223372036854775808<=n/\n<=9223372036854775807):Qdh n=some (YL n):=by
  have key:Qfj n 10=some (YL n):=by
    unfold Qfj;rw [decide_eq_true rfl,cond_true];by_cases h1:0<=n/\n < 100
    · rw [decide_eq_true h1.1,decide_eq_true h1.2];obtain ⟨m,rfl⟩:∃ m:Nat,n=(m:Int):=⟨n.toNat,by omega⟩;exact QHa (by omega)
    · have hc : (decide (0 <= n) && decide (n < 100)) = false := by
        rw [Bool.and_eq_false_iff,decide_eq_false_iff_not,decide_eq_false_iff_not];omega
      rw [hc,cond_false,Qtl h];have hn1:1<=nd n.natAbs:=(Qak _).1;have hn2:nd n.natAbs<=19:=Qfu (by decide) (by omega);rw [QEj (by omega) (by omega),Option.bind_some];rw [decide_eq_true (show (1:Int)<=((nd n.natAbs:Nat):Int) by omega),decide_eq_true (show ((nd n.natAbs:Nat):Int)<=22 by omega)];show (EE (Qcv (Ef ((nd n.natAbs:Nat):Int).toNat (0:Int)) _) _)=_;rw [Ei,Qzp (by omega) (by omega) (Qak _).2.1];show some (YI (bif decide (n < 0) then ((45:Int)::XT (nd n.natAbs) n.natAbs:List Int) else XT (nd n.natAbs) n.natAbs))=_;unfold YL Xw Ya;by_cases h0:n < 0
      · rw [decide_eq_true h0,if_pos h0];rfl
      · rw [decide_eq_false h0,if_neg h0];rfl
  unfold Qdh Qix;rw [key];rfl
end Go.Gw

end
section
set_option maxRecDepth 4096
set_option linter.unusedVariables false
namespace Go.Gw
open Go
attribute [local irreducible] loop
def Yc (c:Int):List Int->List (List Int)
 | []=>[[]]
 | x::l=>if x=c then []::Yc c l else
  match Yc c l with
  | h::t=>(x::h)::t
  | []=>[[x]]
theorem Qkd (c:Int):∀ l:List Int,∃ h t,Yc c l=h::t
 | []=>⟨[],[],rfl⟩
 | x::l=>by
  obtain ⟨h,t,e⟩:=Qkd c l;unfold Yc;by_cases hx:x=c
  ·rw [if_pos hx];exact ⟨_,_,rfl⟩
  ·rw [if_neg hx,e];exact ⟨_,_,rfl⟩
theorem Qga {c:Int}:∀ {a:List Int},c∉a->Yc c a=[a]
 | [],_=>rfl
 | x::a,h=>by
  rw [Yc,if_neg (fun e=>h (by simp [e])),Qga fun q=>h (EO _ q)]
theorem Qgb {c:Int}:∀ {a b:List Int},c∉a->Yc c (a++c::b)=a::Yc c b
 | [],b,_=>by rw [List.nil_append,Yc,if_pos rfl]
 | x::a,b,h=>by
  rw [List.cons_append,Yc,if_neg (fun e=>h (by simp [e])),Qgb fun q=>h (EO _ q)]
/-! ### Parts of a text -/
theorem JP {s:ByteArray} {k:Nat} (h:k < (QD s).length):idx (α:=Int) (bl s) (k:Int)=some (QD s)[k]:=Jb (xs:=QD s) h
theorem Qus (s:ByteArray) (a b:Nat):QD (s.extract a b)=((QD s).take b).drop a:=by
 show List.map _ (s.extract a b).data.toList=List.drop a (List.take b (List.map _ s.data.toList));rw [<-List.map_take,<-List.map_drop];congr 1;rw [ByteArray.data_extract,Array.toList_extract];simp [List.extract,List.drop_take]
theorem J0 {s:ByteArray} {a b:Nat} (h1:a<=b) (h2:b<=s.size):∃ t,YS s (a:Int) (b:Int)=some t/\QD t=((QD s).take b).drop a:=by
 refine ⟨s.extract a b,?_,Qus s a b⟩;unfold YS;rw [if_pos ⟨by omega,by omega,by omega⟩,Ei,Ei]
theorem Qvg {s:ByteArray} {c:Int} (hs:s.size<=100000):Runs (Qef s c) fun r=>r.map QD=Yc c (QD s):=by
  have hlen:=YA s;unfold Qef;refine Ee (R:=fun x=>∃ f:Nat,x.2=(f:Int)/\f<=s.size/\c∉(QD s).drop f/\Yc c (QD s)=x.1.map QD++Yc c ((QD s).drop f)/\x.1.length<=s.size) (Ew (fun x=>∃ f i:Nat,x.2=((f:Int),(i:Int))/\f<=i/\i<=s.size/\c∉((QD s).take i).drop f/\Yc c (QD s)=x.1.map QD++Yc c ((QD s).drop f)/\x.1.length<=i) (fun x=>s.size - x.2.2.toNat) ⟨0,0,rfl,Ek _,Et _,by simp,by simp,by simp⟩ ?_) ?_
  · rintro ⟨out,_⟩ ⟨f,i,rfl,h1,h2,h3,h4,h5⟩;unfold Qlr;dsimp only at h4 h5;have hm:s.size - (w64 ((i:Int)+1)).toNat < s.size - ((i:Nat):Int).toNat↔i < s.size:=by rw [YZ i (by omega)];simp;omega
    by_cases hi:i < s.size
    · have hg:i < (QD s).length:=by omega
      have ht:(QD s).take (i+1)=(QD s).take i++[(QD s)[i]]:=(Eo hg).symm;refine Eg (Qag hi) (Eb (JP hg) (Runs.bif (fun hb=>?_) (fun hb=>?_)))
      · have hc:=of_decide_eq_true hb;obtain ⟨t,ht1,ht2⟩:=J0 (s:=s) h1 (by omega);refine Eb ht1 (Eb (Qln (by simp;omega)) (Ea ⟨⟨i+1,i+1,?_,Ek _,hi,?_,?_,?_⟩,hm.2 hi⟩))
        · rw [YZ i (by omega)]
        · rw [List.drop_of_length_le (by rw [Eq_];omega)];simp
        · have e : (QD s).drop f = ((QD s).take i).drop f ++ c :: (QD s).drop (i + 1) := by
            rw [<-hc,<-EH hg,<-EC (by simp;omega),List.take_append_drop]
          rw [h4,e,Qgb h3];show _=(out++[t]).map QD++_;rw [Es,Eu,ht2,EG];rfl
        · show (out++[t]).length<=_;simp;omega
      · have hc:=of_decide_eq_false hb;refine Ea ⟨⟨f,i+1,?_,by omega,hi,?_,h4,by show out.length<=_;omega⟩,hm.2 hi⟩
        · rw [YZ i (by omega)]
        · rw [ht,EC (by simp;omega)];intro hq;rcases List.mem_append.1 hq with hq | hq
          · exact h3 hq
          · simp at hq;exact hc hq.symm
    · obtain rfl:i=s.size:=by omega
      refine Ej (Qah _) (Ea ⟨f,rfl,h1,?_,h4,h5⟩);rwa [El (by omega)] at h3
  · rintro ⟨out,_⟩ ⟨f,rfl,h1,h2,h3,h4⟩;dsimp only at h3 h4;obtain ⟨t,ht1,ht2⟩:=J0 (s:=s) h1 (Ek _);refine Eb ht1 (Eb (Qln (by simp;omega)) (Ea ?_));rw [h3,Qga h2,Es,Eu,ht2,El (by omega)];rfl
/-! ### The library -/
theorem Qbz {x:UInt8} {c:Nat} (h:c < 256):((x.toNat:Nat):Int)=(c:Int)↔x=c.toUInt8:=by
 constructor
 ·intro e;exact UInt8.toNat.inj (by rw [show c.toUInt8.toNat=c % 256 from rfl];omega)
 ·intro e;rw [e,show c.toUInt8.toNat=c % 256 from rfl];omega
theorem Qva {s:ByteArray} {c:Nat} (h:c < 256):Qaa s (c:Int)=(((QD s).count (c:Int):Nat):Int):=by
 unfold Qaa;rw [Ei,Lib.foldl_data,Lib.count_foldl];unfold Lib.countByte QD;have key:∀ l:List UInt8,(l.map fun b:UInt8=>((b.toNat:Nat):Int)).count (c:Int)=l.count c.toUInt8:=by
  intro l
  induction l with
  | nil=>rfl
  | cons x l ih =>
   rw [Eu];by_cases hx:x=c.toUInt8
   ·rw [(Qbz h).2 hx,Ez,ih,hx,Ez]
   ·rw [EN (fun e=>hx ((Qbz h).1 e)),EN hx,ih]
 rw [key];omega
theorem Qoj (u:UInt8):∀ l:List UInt8,(u∉l/\Lib.indexByte l u=-1)\/∃ a b,l=a++u::b/\u∉a/\Lib.indexByte l u=(a.length:Int)
 | []=>.inl ⟨by simp,rfl⟩
 | x::l=>by
  by_cases hx:x=u
  ·exact .inr ⟨[],l,by rw [hx];rfl,by simp,by simp [Lib.indexByte,hx]⟩
  ·rcases Qoj u l with ⟨h1,h2⟩ | ⟨a,b,h1,h2,h3⟩
   ·refine .inl ⟨fun h=>?_,by simp [Lib.indexByte,hx,h2]⟩;rcases List.mem_cons.1 h with h | h
    ·exact hx h.symm
    ·exact h1 h
   ·refine .inr ⟨x::a,b,by rw [h1];rfl,fun h=>?_,?_⟩
    ·rcases List.mem_cons.1 h with h | h
     ·exact hx h.symm
     ·exact h2 h
    ·have hn:¬ ((a.length:Int)=-1):=by omega
     simp [Lib.indexByte,hx,h3,hn]
theorem Qos {s:ByteArray} {c:Nat} (h:c < 256):((c:Int)∉QD s/\ZL s (c:Int)=-1)\/∃ a b,QD s=a++(c:Int)::b/\(c:Int)∉a/\ZL s (c:Int)=(a.length:Int):=by
 have e:ZL s (c:Int)=Lib.indexByte s.data.toList c.toUInt8:=by
  rw [<-Lib.firstIdx_eq];rfl
 have hm:∀ l:List UInt8,c.toUInt8∉l->(c:Int)∉l.map fun b:UInt8=>((b.toNat:Nat):Int):=fun l hl hq=>by
  obtain ⟨x,hx,hx2⟩:=List.mem_map.1 hq;rw [(Qbz h).1 hx2] at hx;exact hl hx
 rw [e];rcases Qoj c.toUInt8 s.data.toList with ⟨h1,h2⟩ | ⟨a,b,h1,h2,h3⟩
 ·exact .inl ⟨hm _ h1,h2⟩
 ·refine .inr ⟨a.map fun b:UInt8=>((b.toNat:Nat):Int),b.map fun b:UInt8=>((b.toNat:Nat):Int),?_,hm _ h2,by rw [h3,List.length_map]⟩;unfold QD;rw [h1,Es,Eu,(Qbz h).2 rfl]
def Zy (c:Nat):ByteArray:=ByteArray.mk #[c.toUInt8]
theorem QAf {s:ByteArray} {c:Nat} (h:c < 256):Qge s (Zy c)=some (ZL s (c:Int)):=by
  have hz:(Zy c).size=1:=rfl;have hb:QD (Zy c)=[(c:Int)]:=by
    show [((c.toUInt8.toNat:Nat):Int)]=_;rw [(Qbz h).2 rfl]
  have key:Qfq s (Zy c)=some (ZL s (c:Int)):=by
    refine EK ?_;unfold Qfq;rw [hz];refine Runs.bif (fun hq=>?_) (fun hq=>Eg rfl ?_)
    · have hs:Zy c=s:=by simpa using hq
      refine Ea ?_;rcases Qos (s:=s) h with ⟨h1,_⟩ | ⟨a,b,h1,h2,h3⟩
      · rw [<-hs,hb] at h1;simp at h1
      · rw [h3];rw [<-hs,hb] at h1;cases a with
        | nil=>rfl
        | cons x a=>simp at h1
    · have hi : idx (α := Int) (bl (Zy c)) 0 = some (c : Int) := by
        have:=JP (s:=Zy c) (k:=0) (by rw [hb];exact Nat.one_pos);rw [show ((0:Nat):Int)=0 from rfl] at this;rw [this];simp [hb]
      exact Eb hi (Eb (b:=ZL s (c:Int)) rfl (Ea rfl))
  unfold Qge;rw [key];rfl
theorem take_set {α:Type} (l:List α) (j:Nat) (x:α) (h:j < l.length):(l.set j x).take (j+1)=l.take j++[x]:=by
 rw [<-Eo (by rw [EI];exact h),List.take_set_of_le (Ek _),List.getElem_set_self]
theorem QHc {s:ByteArray} {c:Nat} (h:c < 256) (hs:s.size<=100000):Runs (Qgf s (Zy c)) fun r=>r.map QD=Yc (c:Int) (QD s):=by
  have hz:(Zy c).size=1:=rfl;have hlen:=YA s;obtain ⟨k,hk⟩:∃ k,k=(QD s).count (c:Int):=⟨_,rfl⟩;have hk1:k<=s.size:=by rw [hk,<-hlen];exact List.count_le_length
  unfold Qgf;refine Runs.bind (Runs.mono (Q:=fun r=>r.map QD=Yc (c:Int) (QD s)) ?_ fun r hr=>Ea hr);unfold Qki;refine Ej rfl (Ej (decide_eq_false fun e=>?_) (Ee (R:=fun x=>x=((k+1:Nat):Int)) (Eg rfl (Eb (b:=((k:Nat):Int)) ?_ (Ea ?_))) ?_))
  · have:=congrArg ByteArray.size e;rw [hz] at this;cases this
  · refine EK ?_;unfold Qkh;rw [hz];have hi:idx (α:=Int) (bl (Zy c)) 0=some (c:Int):=by
      have hb:QD (Zy c)=[(c:Int)]:=by
        show [((c.toUInt8.toNat:Nat):Int)]=_;rw [(Qbz h).2 rfl]
      have:=JP (s:=Zy c) (k:=0) (by rw [hb];exact Nat.one_pos);rw [show ((0:Nat):Int)=0 from rfl] at this;rw [this];simp [hb]
    exact Ej rfl (Eg rfl (Eb hi (Ea (by rw [Qva h,hk]))))
  · exact YZ k (by omega)
  rintro _ rfl;have hif:(if w64 ((s.size:Int)+1) < ((k+1:Nat):Int) then w64 ((s.size:Int)+1) else ((k+1:Nat):Int))=((k+1:Nat):Int):=by
    rw [YZ s.size (by omega),if_neg (by omega)]
  rw [hif];have hmk:mk (((k+1:Nat)):Int) (ByteArray.empty:ByteArray)=some (Ef (k+1) ByteArray.empty):=by
    unfold mk;rw [if_pos (by omega),Ei]
  refine Eb hmk (Ee (R:=fun x=>x.2.1.length=k+1/\x.2.2=(k:Int)/\(QD x.1).count (c:Int)=0/\(x.2.1.take k).map QD++Yc (c:Int) (QD x.1)=Yc (c:Int) (QD s)) (Ew (fun x=>∃ j:Nat,x.2.2=(j:Int)/\j<=k/\x.2.1.length=k+1/\x.1.size<=s.size/\(QD x.1).count (c:Int)=k - j/\(x.2.1.take j).map QD++Yc (c:Int) (QD x.1)=Yc (c:Int) (QD s)) (fun x=>k - x.2.2.toNat) ⟨0,rfl,Et _,by simp,Ek _,by rw [hk];rfl,by simp⟩ ?_) ?_)
  · rintro ⟨r,a,_⟩ ⟨j,rfl,h1,h2,h3,h4,h5⟩;dsimp only at h2 h3 h4 h5;unfold Qru;rw [hif];have hw:w64 (((k+1:Nat):Int) - 1)=(k:Int):=by rw [XZ (by omega)];omega
    rw [hw];by_cases hj:j < k
    · refine Eg (Qag hj) (Eb (QAf h) ?_);rcases Qos (s:=r) h with ⟨g1,_⟩ | ⟨x,y,g1,g2,g3⟩
      · exfalso;rw [EF.2 g1] at h4;omega
      rw [g3];have hrl:x.length+y.length+1=r.size:=by rw [<-YA,g1];simp;omega
      obtain ⟨p,p1,p2⟩:=J0 (s:=r) (a:=0) (b:=x.length) (Et _) (by omega);obtain ⟨q,q1,q2⟩:=J0 (s:=r) (a:=x.length+1) (b:=r.size) (by omega) (Ek _);have e1:w64 ((x.length:Int)+0)=(x.length:Int):=by rw [XZ (by omega)];omega
      have e2:w64 ((x.length:Int)+((Zy c).size:Int))=((x.length+1:Nat):Int):=by rw [hz];exact YZ x.length (by omega)
      refine Ej (decide_eq_false (by omega)) ?_;rw [e1,e2];have hq:QD q=y:=by
        rw [q2,g1,El (by simp;omega)];rw [show x.length+1=(x++[(c:Int)]).length by simp,show x++(c:Int)::y=(x++[(c:Int)])++y by simp];exact List.drop_left
      have hp:QD p=x:=by rw [p2,g1];simp
      refine Eb p1 (Eb (Jb (by omega)) (Eb q1 (Ea ⟨⟨j+1,YZ j (by omega),by omega,?_,?_,?_,?_⟩,?_⟩)))
      · show (a.set _ p).length=_;rw [EI];exact h2
      · show q.size<=_;have:=YA q;rw [hq] at this;omega
      · show (QD q).count _=_;rw [g1,List.count_append,Ez,EF.2 g2] at h4;rw [hq];omega
      · show ((a.set ((j:Nat):Int).toNat p).take (j+1)).map QD++Yc (c:Int) (QD q)=_;rw [Ei,take_set _ _ _ (by omega),Es,Eu,EG,hp,hq];rw [<-h5,g1,Qgb g2];rfl
      · show k - (w64 ((j:Int)+1)).toNat < k - ((j:Nat):Int).toNat;rw [YZ j (by omega)];simp;omega
    · obtain rfl:j=k:=by omega
      refine Ej (Qah _) (Ea ⟨h2,rfl,by rw [h4];omega,h5⟩)
  · rintro ⟨r,a,_⟩ ⟨h1,rfl,h2,h3⟩;dsimp only at h1 h2 h3;have hc:cut (a.set ((k:Nat):Int).toNat r) 0 (w64 ((k:Int)+1))=some (a.take k++[r]):=by
      rw [YZ k (by omega),Ei];unfold cut;rw [if_pos (by rw [EI];omega),Ei,take_set _ _ _ (by omega)];rfl
    refine Eb (Jb (by omega)) (Eb hc (Ea ?_));rw [Es,<-h3,Qga (EF.1 h2)];rfl
end Go.Gw

end
section
set_option maxRecDepth 4096
set_option linter.unusedVariables false
namespace Go.Gw
open Go
attribute [local irreducible] loop
def Zz (n:Int):Nat:=if n < 0 then 1 else 0
theorem Qco (n:Int):(Xw n).length=nd n.natAbs+Zz n:=by
 unfold Xw Ya Zz;split
 ·rw [List.length_cons,JS]
 ·rw [JS];rfl
theorem Qeu {n c:Int} {t:List Int} (h:c::t=Xw n):(c=45/\n < 0/\t=Ya n.natAbs)\/(c≠45/\0<=n/\c::t=Ya n.natAbs/\48<=c/\c<=57):=by
 unfold Xw at h;split at h
 ·obtain ⟨h1,h2⟩:=EJ.inj h;exact .inl ⟨h1,by assumption,h2⟩
 ·obtain ⟨x,l,hx,g1,g2,_⟩:=Qab n.natAbs;have h':=h;rw [hx] at h;have:=(EJ.inj h).1;exact .inr ⟨by omega,by omega,h',by omega,by omega⟩
def Qtg (l:List Int) (d:Nat) (r:Int×Bool):Prop :=
 (∃ n,r=(n,true)/\l=Xw n/\l.length<=d+Zz n)\/(r=(0,false)/\∀ n,l=Xw n->d+Zz n < l.length)
theorem Qmp {D:List Int} {k:Nat} (hk:k < D.length):val (D.take (k+1))=val (D.take k) * 10+(D[k] - 48):=by
 rw [<-Eo hk,Qgu]
theorem Qdr {D:List Int} (hD:∀ y∈D,48<=y/\y<=57) (h:D.length<=18):0<=val D/\val D < 1000000000000000000:=by
 obtain ⟨h1,h2⟩:=Qgt _ D rfl hD;have:=Ex (show 0 < 10 by decide) h;omega
theorem QEk {s:ByteArray} {d:Nat} (hd:d<=18) (hs:s.size<=100000):Runs (Qeh s (d:Int)) (Qtg (QD s) d):=by
  have hlen:=YA s;unfold Qeh;cases hl:QD s with
  | nil =>
    have h0:s.size=0:=by rw [<-hlen,hl];rfl
    rw [h0];refine Eb (b:=(0:Int)) rfl (Ee (R:=fun x=>x=0) (Ej rfl (Ea rfl)) ?_);rintro _ rfl;refine Eb (b:=(0:Int)) rfl (Eg rfl (Ea (.inr ⟨rfl,fun n hn=>?_⟩)));obtain ⟨x,l,hx,_⟩:=Qab n.natAbs;unfold Xw at hn;split at hn
    · cases hn
    · rw [hx] at hn;cases hn
  | cons c t =>
    have h1:s.size=t.length+1:=by rw [<-hlen,hl];rfl
    have hi0:idx (α:=Int) (bl s) 0=some c:=by
      have:=JP (s:=s) (k:=0) (by omega);rw [show ((0:Nat):Int)=0 from rfl] at this;rw [this];simp [hl]
    have hg0:decide (0 < (s.size:Int))=true:=decide_eq_true (by omega);refine Ee (R:=fun x=>x=c) (Eg hg0 ⟨_,hi0,rfl⟩) ?_;intro x hx;rw [hx];clear hx x;obtain ⟨at_,D,hat,hD,hDl,hcase⟩:∃ (at_:Nat) (D:List Int),(at_=if c=45 then 1 else 0)/\(QD s).drop at_=D/\D.length+at_=s.size/\((at_=1/\c=45/\D=t)\/(at_=0/\c≠45/\D=c::t)):=by
      by_cases hc:c=45
      · exact ⟨1,t,by rw [if_pos hc],by rw [hl];rfl,by omega,.inl ⟨rfl,hc,rfl⟩⟩
      · exact ⟨0,c::t,by rw [if_neg hc],by rw [hl];rfl,by simp;omega,.inr ⟨rfl,hc,rfl⟩⟩
    refine Ee (R:=fun x=>x=(at_:Int)) ?_ ?_
    · rw [hg0,Bool.true_and];refine Runs.bif (fun hb=>Ea ?_) (fun hb=>Ea ?_)
      · rw [hat,if_pos (of_decide_eq_true hb)];rfl
      · rw [hat,if_neg (of_decide_eq_false hb)];rfl
    rintro _ rfl;have hat1:at_<=1:=by rw [hat];split<;>omega
    have hw:w64 ((s.size:Int) - (at_:Int))=(D.length:Int):=by rw [XZ (by omega)];omega
    rw [hw]
    -- for each n whose text this is
    have htext:∀ n,c::t=Xw n->Zz n=at_/\D=Ya n.natAbs:=fun n hn=>by
      rcases Qeu hn with ⟨e1,e2,e3⟩ | ⟨e1,e2,e3,_⟩
      · rcases hcase with ⟨q1,q2,q3⟩ | ⟨q1,q2,q3⟩
        · exact ⟨by unfold Zz;rw [if_pos e2,q1],by rw [q3,e3]⟩
        · exact absurd e1 q2
      · rcases hcase with ⟨q1,q2,q3⟩ | ⟨q1,q2,q3⟩
        · exact absurd q2 e1
        · exact ⟨by unfold Zz;rw [if_neg (by omega),q1],by rw [q3,e3]⟩
    by_cases hA:(decide ((s.size:Int)=(at_:Int))||decide ((d:Int) < (D.length:Int)))=true
    · refine Eb (b:=(0:Int)) (by rw [hA];rfl) (Eg (by rw [hA];rfl) (Ea (.inr ⟨rfl,fun n hn=>?_⟩)));obtain ⟨g1,g2⟩:=htext n hn;obtain ⟨x,l,hx,_⟩:=Qab n.natAbs;rw [hx] at g2;have hpos:0 < D.length:=by rw [g2];simp
      rw [EA,decide_eq_true_eq,decide_eq_true_eq] at hA;rw [List.length_cons,g1];rcases hA with hA | hA<;>omega
    · have hA:(decide ((s.size:Int)=(at_:Int))||decide ((d:Int) < (D.length:Int)))=false:=by simpa using hA
      have hA':=hA;rw [EB,decide_eq_false_iff_not,decide_eq_false_iff_not] at hA';have hpos:0 < D.length:=by omega
      obtain ⟨y,D',hy⟩:∃ y D',D=y::D':=by
        cases D with
        | nil=>simp at hpos
        | cons y D'=>exact ⟨y,D',rfl⟩
      have hiat:idx (α:=Int) (bl s) (at_:Int)=some y:=by
        rw [JP (by omega)];have:(QD s).drop at_=(QD s)[at_]'(by omega)::(QD s).drop (at_+1) := EH (by omega);have this2:=hy.symm.trans (hD.symm.trans this);rw [(EJ.inj this2).1]
      refine Eb (b:=y) (by rw [hA];exact hiat) ?_;rw [hA,Bool.false_or];by_cases hB:(decide (y=48)&&decide (1 < (s.size:Int)))=true
      · refine Eg hB (Ea (.inr ⟨rfl,fun n hn=>?_⟩));exfalso;rw [Bool.and_eq_true,decide_eq_true_eq,decide_eq_true_eq] at hB;obtain ⟨g1,g2⟩:=htext n hn;obtain ⟨x,l,hx,_,_,h48⟩:=Qab n.natAbs;rw [hx] at g2;rw [hy] at g2;obtain ⟨e1,e2⟩:=EJ.inj g2;by_cases hl0:l=[]
        · -- one digit,a nought: the number is 0,so no sign
          have hv:=Qac n.natAbs;rw [hx,hl0,<-e1,hB.1] at hv;have hn0:n=0:=by simp [val] at hv;omega
          have:Zz n=0:=by rw [hn0];rfl
          have hD1:D.length=1:=by rw [hy,e2,hl0];rfl
          omega
        · exact h48 hl0 (by rw [<-e1];exact hB.1)
      · have hB:(decide (y=48)&&decide (1 < (s.size:Int)))=false:=by simpa using hB
        refine Ej hB (Ee (R:=fun o=>o=.inl (0,false)/\(∀ n,c::t≠Xw n)\/o=.inr (val D)/\∀ z∈D,48<=z/\z<=57) (Ew (fun x=>∃ k:Nat,x=(val (D.take k),((at_+k:Nat):Int))/\k<=D.length/\∀ z∈D.take k,48<=z/\z<=57) (fun x=>s.size - x.2.toNat) ⟨0,rfl,Et _,by simp⟩ ?_) ?_)
        · rintro _ ⟨k,rfl,hk,hz⟩;unfold Qlw;by_cases hkl:k < D.length
          · have hgk : (QD s)[at_ + k]'(by omega) = D[k] := by
              have:D[k]=((QD s).drop at_)[k]'(by rw [List.length_drop];omega) := by congr 1;exact hD.symm
              rw [this,List.getElem_drop]
            have hik:idx (α:=Int) (bl s) ((at_+k:Nat):Int)=some D[k]:=by rw [JP (by omega),hgk]
            refine Eg (Qag (by omega)) (Eb hik ?_);have hnot:(¬ (48<=D[k]/\D[k]<=57))->∀ n,c::t≠Xw n:=fun hn n e=>by
              obtain ⟨_,g2⟩:=htext n e;have hm:=Ev hkl;have hm2:D[k]∈Ya n.natAbs:=g2▸hm;exact hn (Qbi hm2)
            refine Ee (R:=fun x=>¬ D[k] < 48->x=D[k]) (Runs.bif (fun hb=>⟨_,hik,fun _=>rfl⟩) (fun hb=>Ea fun hn=>?_)) ?_
            · simp at hb;omega
            intro x hx;refine Runs.bif (fun hb=>?_) (fun hb=>?_)
            · refine Ea (.inl ⟨rfl,hnot ?_⟩);rw [EA,decide_eq_true_eq,decide_eq_true_eq] at hb;rintro ⟨g1,g2⟩;have:=hx (by omega);omega
            · rw [EB,decide_eq_false_iff_not,decide_eq_false_iff_not] at hb;have:=hx hb.1;have hdig:48<=D[k]/\D[k]<=57:=by omega
              have hz':∀ z∈D.take (k+1),48<=z/\z<=57:=fun z hq=>by
                rw [<-Eo hkl] at hq;rcases List.mem_append.1 hq with hq | hq
                · exact hz z hq
                · rw [List.mem_singleton] at hq;rw [hq];exact hdig
              have hv:=Qdr hz (by rw [Eq_];omega);have hv':=Qdr hz' (by rw [Eq_];omega);have hdv:=Qmp hkl;refine Eb hik (Ea ⟨⟨k+1,?_,by omega,hz'⟩,?_⟩)
              · rw [Go.IntWalk.u8_in _ (by omega),XZ (x:=D[k] - 48) (by omega),XZ (x:=10 * val (D.take k)) (by omega),XZ (by omega),YZ _ (by omega)];rw [hdv];congr 1;omega
              · show s.size - (w64 (((at_+k:Nat):Int)+1)).toNat < s.size - (((at_+k:Nat):Int)).toNat;rw [YZ _ (by omega)];simp;omega
          · obtain rfl:k=D.length:=by omega
            refine Ej ?_ (Ea (.inr ⟨?_,?_⟩))
            · rw [hDl.symm,Ey];exact Qah _
            · rw [El (Ek _)]
            · rwa [El (Ek _)] at hz
        · rintro _ (⟨rfl,hno⟩ | ⟨rfl,hz⟩)
          · exact ER (.inr ⟨rfl,fun n e=>absurd e (hno n)⟩)
          · refine ES ?_;have hv:=Qdr hz (by omega);have hlead:D'≠[]->y≠48:=fun hne e=>by
              rw [e] at hB;have:1 < s.size:=by
                have:0 < D'.length:=List.length_pos_iff.2 hne;have:D.length=D'.length+1:=by rw [hy];rfl
                omega
              simp at hB;omega
            have hdn:Ya (val D).toNat=D:=by rw [hy];exact Qvi (by rw [<-hy];exact hz) hlead
            rcases hcase with ⟨q1,q2,q3⟩ | ⟨q1,q2,q3⟩
            · have hne0 : val D ≠ 0 := fun e => by
                rw [e] at hdn;have e0:Ya 0=[48]:=by
                  unfold Ya;rw [Qal (k:=1) (by decide) (by decide) (.inl rfl)];rfl
                have hdn:[48]=D:=e0.symm.trans hdn;rw [hy] at hdn;have hy48:=(EJ.inj hdn).1;rw [<-hy48] at hB;simp at hB;omega
              refine Eg (by rw [q1];rfl) (Ea (.inl ⟨-(val D),by rw [XZ (by omega)];simp,?_,?_⟩))
              · unfold Xw;rw [if_pos (by omega),show (-(val D)).natAbs=(val D).toNat by omega,hdn,q2,q3]
              · unfold Zz;rw [if_pos (by omega)];simp;omega
            · refine Ej (by rw [q1];rfl) (Ea (.inl ⟨val D,rfl,?_,?_⟩))
              · unfold Xw;rw [if_neg (by omega),show (val D).natAbs=(val D).toNat by omega,hdn,q3]
              · simp;omega
end Go.Gw

end
section
set_option maxRecDepth 4096
set_option linter.unusedVariables false
namespace Go.Gw
open Go
attribute [local irreducible] loop
def ZR (x:Int):Prop:=-9223372036854775808<=x/\x<=9223372036854775807
theorem Qks (x:Int):ZR (w64 x):=by
 unfold w64 ZR;rw [IntKind.wrap_i64];omega
def Jo (e:Int):Prop:=e=0\/e=1\/e=2
theorem Qgw (x e:Int) (h:Jo e):ZR (w64 x,e).1/\Jo (w64 x,e).2:=⟨Qks x,h⟩
theorem Qsk {s:ByteArray} (h:s.size<=100000):JC s=some (QD s:List Int):=by unfold JC;rw [if_pos (by omega)];rfl
theorem QEw {s:ByteArray} (hs:s.size<=100000):Runs (Qfl s 10 0) fun r=>Jo r.2:=by
  have hlen:=YA s;unfold Qfl;refine Runs.bif (fun _=>Ea (.inr (.inr rfl))) (fun _=>Eg rfl (Eg rfl (Eg rfl (Eb (b:=(0:Int)) (by decide +kernel) (Eb (Qsk hs) ?_)))));refine Ee (R:=fun o=>(∃ a e,o=Sum.inl (a,e)/\Jo e)\/∃ v,o=Sum.inr v) (Ew (fun x=>∃ k:Nat,x.2=(k:Int)/\k<=(QD s).length) (fun x=>(QD s).length - x.2.toNat) ⟨0,rfl,Et _⟩ ?_) ?_
  · rintro ⟨x,_⟩ ⟨k,rfl,hk⟩;unfold Qon;by_cases hkl:k < (QD s).length
    · have hnext : ∀ y : Int, Rnd (fun x : Int × Int => ∃ k : Nat, x.2 = (k : Int) /\ k <= (QD s).length) (fun x => (QD s).length - x.2.toNat) (fun o : (Int × Int) ⊕ Int => (∃ a e, o = Sum.inl (a, e) /\ Jo e) \/ ∃ v, o = Sum.inr v) (x, ((k : Nat) : Int)) (Sum.inl (y, w64 ((k : Int) + 1))) := fun y => by
        refine ⟨⟨k+1,YZ k (by omega),by omega⟩,?_⟩;show (QD s).length - (w64 ((k:Int)+1)).toNat < (QD s).length - ((k:Nat):Int).toNat;rw [YZ k (by omega)];simp;omega
      refine Eg (Qag hkl) (Eb (Jb (xs:=QD s) hkl) (Ee (R:=fun o=>o=Sum.inl (Sum.inr (Sum.inl (0,2)))\/∃ z,o=Sum.inr z) (Ej (by simp) (Runs.bif (fun _=>Ea (.inr ⟨_,rfl⟩)) (fun _=>Eb (b:=JY .u8 (QD s)[k] 32) rfl (Ee (R:=fun _=>True) (Runs.bif (fun _=>Runs.of_eq (a:=JY .u8 (QD s)[k] 32) rfl trivial) (fun _=>Ea trivial)) fun q _=>Runs.bif (fun _=>Eb (b:=JY .u8 (QD s)[k] 32) rfl (Ea (.inr ⟨_,rfl⟩))) (fun _=>Ea (.inl rfl)))))) ?_));rintro _ (rfl | ⟨z,rfl⟩)
      · exact ER (.inl ⟨_,_,rfl,.inr (.inr rfl)⟩)
      · refine ES (Runs.bif (fun _=>Ea (.inl ⟨_,_,rfl,.inr (.inr rfl)⟩)) (fun _=>Runs.bif (fun _=>Ea (.inl ⟨_,_,rfl,.inr (.inl rfl)⟩)) (fun _=>Runs.bif (fun _=>Ea (.inl ⟨_,_,rfl,.inr (.inl rfl)⟩)) (fun _=>Ea (hnext _)))))
    · obtain rfl:k=(QD s).length:=by omega
      exact Ej (Qah _) (Ea (.inr ⟨_,rfl⟩))
  · rintro _ (⟨a,e,rfl,he⟩ | ⟨v,rfl⟩)
    · exact ER he
    · exact ES (Eb (b:=default) rfl (Ej rfl (Ea (.inl rfl))))
theorem QEv {s:ByteArray} (hs:s.size<=100000):Runs (Qfk s 10 0) fun r=>ZR r.1/\Jo r.2:=by
 have hlen:=YA s;have hz:ZR 0:=⟨by decide,by decide⟩;unfold Qfk;by_cases h0:s=ByteArray.mk #[]
 ·exact Eg (decide_eq_true h0) (Ea ⟨hz,.inr (.inr rfl)⟩)
 have h1:0 < s.size:=by
  rcases Nat.eq_zero_or_pos s.size with h | h
  ·refine absurd (JQ ?_) h0;have:QD s=[]:=ED (by omega);rw [this];rfl
  ·exact h
 obtain ⟨p,p1,p2⟩:=J0 (s:=s) (a:=1) (b:=s.size) h1 (Ek _);have hps:p.size<=s.size:=by rw [<-YA,p2];simp;omega
 refine Ej (decide_eq_false h0) (Eb (JP (k:=0) (by omega)) (Ee (R:=fun x=>x.1.size<=s.size) (Runs.bif (fun _=>Eb p1 (Ea hps)) (fun _=>Runs.bif (fun _=>Eb p1 (Ea hps)) (fun _=>Ea (Ek _)))) ?_));rintro ⟨x,b⟩ hx;refine Ee (QEw (s:=x) (Nat.le_trans hx hs)) fun r hr=>Runs.bif (fun _=>Ea ⟨hz,hr⟩) (fun _=>Ee (R:=fun y=>y=64) (Eg rfl (Ea rfl)) ?_);rintro _ rfl;exact Eb (b:=(9223372036854775808:Int)) (by decide +kernel) (Runs.bif (fun _=>Ea (Qgw _ _ (.inr (.inl rfl)))) (fun _=>Runs.bif (fun _=>Ea (Qgw _ _ (.inr (.inl rfl)))) (fun _=>Runs.bif (fun _=>Ea (Qgw _ _ (.inl rfl))) (fun _=>Ea (Qgw _ _ (.inl rfl))))))
theorem Qtz {s:ByteArray} (h1:0 < s.size) (h2:s.size < 19):Runs (Qcu s) fun r=>(ZR r.1/\Jo r.2)/\∀ n,QD s=Xw n->r=(n,0):=by
 have hlen:=YA s;have hz:ZR 0:=⟨by decide,by decide⟩;unfold Qcu;obtain ⟨c,t,hl⟩:∃ c t,QD s=c::t:=by
  cases h:QD s with
  | nil=>rw [h] at hlen;simp at hlen;omega
  | cons c t=>exact ⟨c,t,rfl⟩
 have ht:s.size=t.length+1:=by rw [<-hlen,hl];rfl
 have hi0:idx (α:=Int) (bl s) 0=some c:=by
  have:=JP (s:=s) (k:=0) (by omega);rw [show ((0:Nat):Int)=0 from rfl] at this;rw [this];simp [hl]
 obtain ⟨p,p1,p2⟩:=J0 (s:=s) (a:=1) (b:=s.size) h1 (Ek _);have hp:QD p=t:=by rw [p2,El (by omega),hl];rfl
 have hps:p.size=t.length:=by rw [<-YA,hp]
 refine Eg (by simp;omega) (Eb hi0 (Ee (R:=fun x=>c≠45->x=c) (Runs.bif (fun _=>⟨_,hi0,fun _=>rfl⟩) (fun hb=>Ea fun hn=>by simp at hb;exact absurd hb hn)) ?_));intro x hx;refine Ee (R:=fun o=>o=Sum.inl (0,2)/\t=[]/\(c=45\/c=43)\/∃ q,o=Sum.inr q/\q.size<=s.size/\(((c=45\/c=43)/\QD q=t)\/(c≠45/\c≠43/\q=s))) (Runs.bif (fun hb=>Eb p1 (Runs.bif (fun hb2=>Ea (.inl ⟨rfl,?_,?_⟩)) (fun hb2=>Ea (.inr ⟨p,rfl,by omega,.inl ⟨?_,hp⟩⟩)))) (fun hb=>Ea (.inr ⟨s,rfl,Ek _,.inr ?_⟩))) ?_
 ·have:=of_decide_eq_true hb2;exact ED (by omega)
 ·rw [EA,decide_eq_true_eq,decide_eq_true_eq] at hb;rcases hb with hb | hb
  ·exact .inl hb
  ·by_cases hc:c=45
   ·exact .inl hc
   ·exact .inr ((hx hc).symm.trans hb)
 ·rw [EA,decide_eq_true_eq,decide_eq_true_eq] at hb;rcases hb with hb | hb
  ·exact .inl hb
  ·by_cases hc:c=45
   ·exact .inl hc
   ·exact .inr ((hx hc).symm.trans hb)
 ·rw [EB,decide_eq_false_iff_not,decide_eq_false_iff_not] at hb;exact ⟨hb.1,fun e=>hb.2 ((hx hb.1).trans e),rfl⟩
 rintro _ (⟨rfl,ht0,hc⟩ | ⟨q,rfl,hqs,hq⟩)
 ·refine ER ⟨⟨hz,.inr (.inr rfl)⟩,fun n hn=>?_⟩;exfalso;rw [hl] at hn;obtain ⟨y,l,hy,_⟩:=Qab n.natAbs;rcases Qeu hn with ⟨_,_,e3⟩ | ⟨e1,_,_,e4,_⟩
  ·rw [ht0,hy] at e3;cases e3
  ·rcases hc with hc | hc<;>omega
 refine ES (Eb (Qsk (by omega)) ?_);have hql:=YA q;have hdig:∀ n,QD s=Xw n->QD q=Ya n.natAbs/\(c=45↔n < 0):=fun n hn=>by
  rw [hl] at hn;rcases Qeu hn with ⟨e1,e2,e3⟩ | ⟨e1,e2,e3,e4,e5⟩
  ·rcases hq with ⟨_,g⟩ | ⟨g,_⟩
   ·exact ⟨by rw [g,e3],⟨fun _=>e2,fun _=>e1⟩⟩
   ·exact absurd e1 g
  ·rcases hq with ⟨g | g,_⟩ | ⟨_,_,g⟩
   ·exact absurd g e1
   ·omega
   ·exact ⟨by rw [g,hl,e3],⟨fun h=>absurd h e1,fun h=>by omega⟩⟩
 refine Ee (R:=fun o=>o=Sum.inl (0,2)/\(∀ n,QD s≠Xw n)\/∃ v,o=Sum.inr v/\ZR v/\∀ n,QD s=Xw n->v=val (QD q)) (Ew (fun x=>∃ k:Nat,x.2=(k:Int)/\k<=(QD q).length/\ZR x.1/\∀ n,QD s=Xw n->x.1=val ((QD q).take k)) (fun x=>(QD q).length - x.2.toNat) ⟨0,rfl,Et _,hz,fun _ _=>rfl⟩ ?_) ?_
 ·rintro ⟨v,_⟩ ⟨k,rfl,hk,hv,hvn⟩;unfold Qom;dsimp only at hv hvn;by_cases hkl:k < (QD q).length
  ·have hrng:=Qut (Ev hkl);refine Eg (Qag hkl) (Eb (Jb (xs:=QD q) hkl) (Runs.bif (fun hb=>?_) (fun hb=>?_)))
   ·refine Ea (.inl ⟨rfl,fun n hn=>?_⟩);have hm:(QD q)[k]∈Ya n.natAbs:=(hdig n hn).1▸Ev hkl;have:=Qbi hm;have hb:=of_decide_eq_true hb;rw [Go.IntWalk.u8_in _ (by omega)] at hb;omega
   ·refine Ea ⟨⟨k+1,YZ k (by omega),by omega,Qks _,fun n hn=>?_⟩,?_⟩
    ·show w64 _=_;have hz1:∀ z∈QD q,48<=z/\z<=57:=fun z hzq=>Qbi ((hdig n hn).1▸hzq:z∈Ya n.natAbs)
     have hm:=hz1 _ (Ev hkl);have b1:=Qdr (D:=(QD q).take k) (fun z hz2=>hz1 z (EP hz2)) (by rw [Eq_];omega);have b2:=Qdr (D:=(QD q).take (k+1)) (fun z hz2=>hz1 z (EP hz2)) (by rw [Eq_];omega);have hdv:=Qmp hkl;rw [hvn n hn,Go.IntWalk.u8_in _ (by omega),XZ (x:=(QD q)[k] - 48) (by omega),XZ (x:=val ((QD q).take k) * 10) (by omega),XZ (by omega),hdv]
    ·show (QD q).length - (w64 ((k:Int)+1)).toNat < (QD q).length - ((k:Nat):Int).toNat;rw [YZ k (by omega)];simp;omega
  ·obtain rfl:k=(QD q).length:=by omega
   refine Ej (Qah _) (Ea (.inr ⟨v,rfl,hv,fun n hn=>?_⟩));rw [hvn n hn,El (Ek _)]
 ·rintro _ (⟨rfl,hno⟩ | ⟨v,rfl,hv,hvn⟩)
  ·exact ER ⟨⟨hz,.inr (.inr rfl)⟩,fun n hn=>absurd hn (hno n)⟩
  ·refine ES (Eb hi0 (Runs.bif (fun hb=>?_) (fun hb=>?_)))
   ·refine Ea ⟨⟨Qks _,.inl rfl⟩,fun n hn=>?_⟩;have h:=hvn n hn;rw [(hdig n hn).1,Qac] at h;have hneg:=((hdig n hn).2).1 (of_decide_eq_true hb);have h3:=hv.1;have h4:=hv.2;rw [h,XZ (by omega)];congr 1;omega
   ·refine Ea ⟨⟨hv,.inl rfl⟩,fun n hn=>?_⟩;have h:=hvn n hn;rw [(hdig n hn).1,Qac] at h;have hneg:=(hdig n hn).2;have hb:=of_decide_eq_false hb;rw [h];congr 1;omega
theorem Qmi {s:ByteArray} (h:s.size<=100000):Qbq s=some s:=by
 unfold Qbq;rw [decide_eq_true (by omega)];rfl
theorem QIr {f s:ByteArray} {e:Int} (hs:s.size<=100000) (h:Jo e) (h0:e≠0):Qgd f s 0 0 e=some (-1):=by
 refine EK ?_;unfold Qgd;rcases h with rfl | rfl | rfl
 ·exact absurd rfl h0
 ·refine Ej rfl (Eg rfl (Ee (R:=fun _=>True) ?_ fun _ _=>Ea rfl));unfold Qkf;exact Eb (Qmi hs) (Ea trivial)
 ·refine Eg rfl (Ee (R:=fun _=>True) ?_ fun _ _=>Ea rfl);unfold Qkg;exact Eb (Qmi hs) (Ea trivial)
theorem Qua {s:ByteArray} (hs:s.size<=100000):Runs (Qgc s) fun r=>ZR r.1/\∀ n,QD s=Xw n->s.size<=18->r=(n,0):=by
 unfold Qgc;refine Ee (R:=fun r=>(ZR r.1/\Jo r.2)/\∀ n,QD s=Xw n->s.size<=18->r=(n,0)) ?_ ?_
 ·by_cases h:0 < s.size/\s.size < 19
  ·exact Runs.mono (Qtz h.1 h.2) fun r hr=>⟨hr.1,fun n hn _=>hr.2 n hn⟩
  ·unfold Qcu;refine Ej ?_ (Ee (QEv hs) fun r hr=>Ea ⟨hr,fun n hn h18=>?_⟩)
   ·simp;omega
   ·exfalso;have:s.size=0:=by omega
    have h1:=YA s;rw [hn,Qco] at h1;have:=(Qak n.natAbs).1;omega
 ·rintro ⟨v,e⟩ ⟨⟨h1,h2⟩,h3⟩;by_cases he:e=0
  ·exact Ej (by simp [he]) (Ea ⟨h1,fun n hn h18=>by have:=h3 n hn h18;rw [Prod.mk.injEq] at this;rw [this.1]⟩)
  ·refine Eg (by simp [he]) (Eb (QIr hs h2 he) (Ea ⟨h1,fun n hn h18=>?_⟩));have:=h3 n hn h18;rw [Prod.mk.injEq] at this;exact absurd this.2 he
end Go.Gw

end
