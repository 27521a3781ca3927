/- Laws of the walk. Condition: each theorem says its own. -/
import Derived.Test.YtbigilldfhjedaaGreatDoorGwLib5
import Derived.IntWalk
import Derived.Test.YtbigilldfhjedaaGreatDoorGwLib21
set_option linter.unusedVariables false
set_option linter.unusedSimpArgs false
set_option linter.unusedSectionVars false
open Array renaming getElem?_eq_some_iff→Ea,replicate→En
open Bool renaming and_eq_true→Eb,not_eq_true'→Ec
open Go.Gw.Chg renaming refl→Ed,trans→Eq_
open Nat renaming pow_succ→Ee,add_sub_cancel→Ef,pow_le_pow_right→Eh,le_refl→Er
open List renaming mem_append_left→Eg,eq_nil_of_length_eq_zero→Ei,dropLast_concat_getLast→Ej,mem_cons_self→Ek,mem_cons→El,drop_eq_getElem_cons→Em,mem_cons_of_mem→Eo,cons→Ep
section
namespace Go.Gw
open Go

theorem XS {x:Int} (h:-9223372036854775808<=x/\x<=9223372036854775807):w64 x=x:=Go.IntWalk.i64_in x h

def Runs {α:Type} (e:Option α) (Q:α->Prop):Prop:=∃ a,e=some a/\Q a

section
variable {α β σ μ:Type} {Q:α->Prop} {e e':Option α}
theorem Runs.some {a:α} (h:Q a):Runs (some a) Q:=⟨a,rfl,h⟩
theorem Runs.bind {e:Option β} {f:β->Option α} (h:Runs e fun b=>Runs (f b) Q):Runs (e.bind f) Q:=by
 obtain ⟨b,rfl,a,ha,hq⟩:=h;exact ⟨a,ha,hq⟩
theorem Runs.mono {Q':α->Prop} (h:Runs e Q) (hm:∀ a,Q a->Q' a):Runs e Q':=by obtain ⟨a,ha,hq⟩:=h;exact ⟨a,ha,hm _ hq⟩
theorem Runs.eq {a:α} (h:Runs e (·=a)):e=.some a:=by obtain ⟨b,hb,rfl⟩:=h;exact hb
theorem Runs.of_eq {a:α} (h:e=.some a) (hq:Q a):Runs e Q:=⟨a,h,hq⟩
theorem Runs.call {e:Option β} {f:β->Option α} {b:β} (h:e=.some b) (hq:Runs (f b) Q):Runs (e.bind f) Q:=by simp_all
theorem Runs.callR {e:Option β} {f:β->Option α} {R:β->Prop} (h:Runs e R) (hq:∀ b,R b->Runs (f b) Q):Runs (e.bind f) Q:=by obtain ⟨b,rfl,hb⟩:=h;grind
theorem Runs.bif {b:Bool} (ht:b=true->Runs e Q) (hf:b=false->Runs e' Q):Runs (bif b then e else e') Q:=by
 grind
theorem Runs.bif_t {b:Bool} (hb:b=true) (ht:Runs e Q):Runs (bif b then e else e') Q:=by simp_all
theorem Runs.bif_f {b:Bool} (hb:b=false) (hf:Runs e' Q):Runs (bif b then e else e') Q:=by simp_all
theorem Runs.jl {b:α} {f:μ->Option α} (h:Q b):Runs (Xt (.inl b) f) Q:=⟨b,rfl,h⟩
theorem Runs.jr {m:μ} {f:μ->Option α} (h:Runs (f m) Q):Runs (Xt (.inr m) f) Q:=h
def Rnd (I:σ->Prop) (m:σ->Nat) (Q:β->Prop) (s:σ):σ⊕β->Prop
 | .inl s'=>I s'/\m s' < m s
 | .inr o=>Q o
theorem Runs.loop {step:σ->Option (σ⊕β)} {s:σ} {Q:β->Prop} (I:σ->Prop) (m:σ->Nat) (h0:I s) (h:∀ s,I s->Runs (step s) (Rnd I m Q s)):Runs (Gw.loop step s) Q:=by
 generalize hk:m s=k
 induction k using Nat.strongRecOn generalizing s with
 | _ k ih =>
  obtain ⟨x,hx,hq⟩:=h s h0;cases x with
  | inl s' =>
   rw [Qmz hx];exact ih (m s') (by have:=hq.2;omega) hq.1 rfl
  | inr o=>rw [Qgn hx];exact ⟨o,rfl,hq⟩
theorem Qsy {step:σ->Option (σ⊕β)} {o:β} (S:Nat->σ) (n:Nat) (h:∀ k,k < n->step (S k)=.some (.inl (S (k+1)))) (he:step (S n)=.some (.inr o)):Gw.loop step (S 0)=.some o:=by
 have key:∀ j k,j+k=n->Gw.loop step (S k)=.some o:=by
  intro j
  induction j with
  | zero=>grind [Qgn]
  | succ j ih=>grind [Qmz]
 simp_all

theorem Xo {xs:List β} {k:Nat} (h:k < xs.length):Gw.idx xs (k:Int)=.some xs[k]:=by
 simp_all [if_pos,Int.toNat_natCast,List.getElem?_eq_getElem,Gw.idx]
theorem Xo? {xs:List β} {k:Nat}:Gw.idx xs (k:Int)=xs[k]?:=by
 rfl
theorem ZK {xs ys:List β} (h:xs.length+ys.length<=1073741824):app xs ys=.some (xs++ys):=by unfold app;grind
theorem QXr {a b:Int} (h:b≠0):quo a b=.some (w64 (a.tdiv b)):=by unfold quo;grind
end
end Go.Gw

end
section
namespace Go.Gw
section
variable {α β γ σ ρ:Type}
def YP (p:α->Bool) (res:Nat->α->ρ):Nat->List α->ρ⊕Unit
 | _,[]=>.inr ()
 | k,x::xs=>if p x then .inl (res k x) else YP p res (k+1) xs
theorem Z0 {step:Int->Option (Int⊕(ρ⊕Unit))} (xs:List α) (p:α->Bool) (res:Nat->α->ρ)
  (hs:∀ k (hk:k < xs.length),step (k:Int)=(bif p xs[k] then some (.inr (.inl (res k xs[k]))) else some (.inl ((k+1:Nat):Int))))
  (he:step (xs.length:Int)=some (.inr (.inr ()))):loop step 0=some (YP p res 0 xs):=by
 have key:∀ j k,j+k=xs.length->loop step (k:Int)=some (YP p res k (xs.drop k)):=by
  intro j
  induction j with
  | zero =>
   intro k hk;obtain rfl:k=xs.length:=by omega
   rw [List.drop_length];exact Qgn he
  | succ j ih =>
   intro k hk;have hlt:k < xs.length:=by omega
   rw [Em hlt];have:=hs k hlt;cases hp:p xs[k] with
   | true=>simp_all [Qgn,YP,if_true]
   | false=>grind [Qmz,YP]
 have:=key xs.length 0 (by omega);trivial

def fld (f:Nat->γ->α->γ):Nat->γ->List α->γ
 | _,a,[]=>a
 | k,a,x::xs=>fld f (k+1) (f k a x) xs
theorem QSe {step:σ->Option (σ⊕β)} (xs:List α) (f:Nat->γ->α->γ) (S:γ->Nat->σ) (o:γ->β) (Inv:γ->Nat->Prop) (a0:γ) (h0:Inv a0 0)
  (hs:∀ k (hk:k < xs.length) a,Inv a k->step (S a k)=some (.inl (S (f k a xs[k]) (k+1)))/\Inv (f k a xs[k]) (k+1))
  (he:∀ a,Inv a xs.length->step (S a xs.length)=some (.inr (o a))):loop step (S a0 0)=some (o (fld f 0 a0 xs))/\Inv (fld f 0 a0 xs) xs.length:=by
 have key:∀ j k a,j+k=xs.length->Inv a k->loop step (S a k)=some (o (fld f k a (xs.drop k)))/\Inv (fld f k a (xs.drop k)) xs.length:=by
  intro j
  induction j with
  | zero =>
   intro k a hk hI;obtain rfl:k=xs.length:=by omega
   rw [List.drop_length];exact ⟨Qgn (he a hI),hI⟩
  | succ j ih =>
   intro k a hk hI;have hlt:k < xs.length:=by omega
   rw [Em hlt];have:=hs k hlt a hI;rw [Qmz this.1];exact ih (k+1) _ (by omega) this.2
 have:=key xs.length 0 a0 (by omega) h0;trivial

theorem Xk (k:Nat) (h:k < 4611686018427387904):w64 ((k:Int)+1)=((k+1:Nat):Int):=by grind [XS]
theorem XT {k n:Nat} (h:k < n):decide ((k:Int) < (n:Int))=true:=by simp;omega
theorem XR (n:Nat):decide ((n:Int) < (n:Int))=false:=by simp
end
end Go.Gw

end
section
namespace Go.Gw
open Go
def QB (s:ByteArray):List Int:=s.data.toList.map fun b=>((b.toNat:Nat):Int)
theorem YR (s:ByteArray):(QB s).length=s.size:=Zn s
theorem Qgb {a b:ByteArray} (h:QB a=QB b):a=b:=by
 have h:bl a=bl b:=h;rw [<-Qiy a,<-Qiy b,h]
theorem Z6 (a b:ByteArray):QB (a++b)=QB a++QB b:=Qld a b
theorem Qxw {l:List Int} (h:∀ x∈l,0<=x/\x < 256):QB (YS l)=l:=by
 have e:=Qtv (xs:=(l:List U8));show bl (YS (l:List U8))=l;rw [e];show List.map (fun b:UInt8=>((b.toNat:Nat):Int)) (List.map (fun n:Int=>UInt8.ofNat n.toNat) l).toArray.toList=l;rw [List.toList_toArray,List.map_map];refine (List.map_congr_left (g:=id) fun x hx=>?_).trans (List.map_id l);obtain ⟨h1,h2⟩:=h x hx;show (((UInt8.ofNat x.toNat).toNat:Nat):Int)=x;rw [UInt8.toNat_ofNat',Nat.mod_eq_of_lt (by omega)];omega
theorem QJt {s:ByteArray} {x:Int} (h:x∈QB s):0<=x/\x < 256:=by
 have h:x∈List.map (fun b:UInt8=>((b.toNat:Nat):Int)) s.data.toList:=h;obtain ⟨b,_,rfl⟩:=List.mem_map.1 h;have:=b.toNat_lt;omega
def Yx:Nat->Nat->List Int
 | 0,_=>[]
 | k+1,m=>Yx k (m / 10)++[48+((m % 10:Nat):Int)]
theorem Qel:∀ (k m:Nat),(Yx k m).length=k
 | 0,_=>rfl
 | k+1,m=>by simp [Yx,Qel k]
theorem Qcu:∀ (k m:Nat),Yx (k+1) m=(48+((m / 10 ^ k % 10:Nat):Int))::Yx k m
 | 0,m=>by simp [Yx]
 | k+1,m=>by
  have h:=Qcu k (m / 10);show Yx (k+1) (m / 10)++[48+((m % 10:Nat):Int)]=_;rw [h,Nat.div_div_eq_div_mul,Nat.mul_comm 10,<-Ee];rfl
theorem Qgd:∀ {k m:Nat} {x:Int},x∈Yx k m->48<=x/\x<=57
 | 0,_,_,h=>by cases h
 | k+1,m,x,h=>by
  rcases List.mem_append.1 h with h | h
  ·exact Qgd h
  ·simp at h;omega
def val (l:List Int):Int:=l.foldl (fun n x=>n * 10+(x - 48)) 0
theorem Qpl (l:List Int) (x:Int):val (l++[x])=val l * 10+(x - 48):=by simp [val,List.foldl_append]
theorem Qyn:∀ (k m:Nat),m < 10 ^ k->val (Yx k m)=m
 | 0,m,h=>by simp at h;subst h;rfl
 | k+1,m,h=>by
  rw [Yx,Qpl,Qyn k (m / 10) (by rw [Ee] at h;omega)];omega
theorem Qpk:∀ (k:Nat) (l:List Int),l.length=k->(∀ x∈l,48<=x/\x<=57)->0<=val l/\val l < ((10 ^ k:Nat):Int)
 | 0,l,h,_=>by
  have:l=[]:=Ei h;subst this;simp [val]
 | k+1,l,h,hd=>by
  obtain ⟨a,x,rfl⟩:∃ a x,l=a++[x]:=⟨l.dropLast,l.getLast (by intro e;subst e;cases h),(Ej _).symm⟩;have h1:=Qpk k a (by simpa using h) fun y hy=>hd y (Eg _ hy)
  have h2:=hd x (by simp);rw [Qpl,Ee];omega
theorem Qym:∀ (k:Nat) (l:List Int),l.length=k->(∀ x∈l,48<=x/\x<=57)->Yx k (val l).toNat=l
 | 0,l,h,_=>(Ei h).symm
 | k+1,l,h,hd=>by
  obtain ⟨a,x,rfl⟩:∃ a x,l=a++[x]:=⟨l.dropLast,l.getLast (by intro e;subst e;cases h),(Ej _).symm⟩;have ha:a.length=k:=by simpa using h
  have h1:=Qpk k a ha fun y hy=>hd y (Eg _ hy)
  have h2:=hd x (by simp);have h3:=Qym k a ha fun y hy=>hd y (Eg _ hy)
  rw [Qpl,Yx];have e1:(val a * 10+(x - 48)).toNat / 10=(val a).toNat:=by omega
  have e2:(((val a * 10+(x - 48)).toNat % 10:Nat):Int)=x - 48:=by omega
  rw [e1,h3,e2];congr 2;omega
def nd (m:Nat):Nat:=if m < 10 then 1 else nd (m / 10)+1
theorem Qeu (m:Nat):1<=nd m/\m < 10 ^ nd m/\(nd m=1\/10 ^ (nd m - 1)<=m):=by
 induction m using Nat.strongRecOn with
 | _ m ih =>
  rw [nd];by_cases h:m < 10
  ·rw [if_pos h];exact ⟨Er _,by simpa using h,.inl rfl⟩
  ·rw [if_neg h];obtain ⟨h1,h2,h3⟩:=ih (m / 10) (by omega);refine ⟨by omega,by rw [Ee];omega,.inr ?_⟩;rw [Ef];rcases h3 with h3 | h3
   ·rw [h3];omega
   ·obtain ⟨j,hj⟩:∃ j,nd (m / 10)=j+1:=⟨nd (m / 10) - 1,by omega⟩;rw [hj] at h3 ⊢;rw [Ef] at h3;rw [Ee];omega
theorem Qev {m k:Nat} (h1:1<=k) (h2:m < 10 ^ k) (h3:k=1\/10 ^ (k - 1)<=m):nd m=k:=by
 obtain ⟨g1,g2,g3⟩:=Qeu m;rcases Nat.lt_trichotomy (nd m) k with h | h | h
 ·exfalso;rcases h3 with h3 | h3
  ·omega
  ·have:=Eh (show 0 < 10 by decide) (show nd m<=k - 1 by omega);omega
 ·exact h
 ·exfalso;rcases g3 with g3 | g3
  ·omega
  ·have:=Eh (show 0 < 10 by decide) (show k<=nd m - 1 by omega);omega
def Y2 (m:Nat):List Int:=Yx (nd m) m
def Ya (n:Int):List Int:=if n < 0 then 45::Y2 n.natAbs else Y2 n.natAbs
def Yw (n:Int):ByteArray:=YS (Ya n)
theorem Qlk {n x:Int} (h:x∈Ya n):x=45\/48<=x/\x<=57:=by
 unfold Ya at h;split at h
 ·rcases El.1 h with h | h
  ·exact .inl h
  ·exact .inr (Qgd h)
 ·exact .inr (Qgd h)
theorem Qef (n:Int):QB (Yw n)=Ya n:=Qxw fun x hx=>by have:=Qlk hx;omega
theorem Qis {m k:Nat} (h1:1<=k) (h:m < 10 ^ k):nd m<=k:=by
 obtain ⟨g1,g2,g3⟩:=Qeu m;rcases Nat.lt_or_ge k (nd m) with h2 | h2
 ·exfalso;rcases g3 with g3 | g3
  ·omega
  ·have:=Eh (show 0 < 10 by decide) (show k<=nd m - 1 by omega);omega
 ·exact h2
theorem Qej {n:Int} (h:-9223372036854775808<=n/\n<=9223372036854775807):(Yw n).size<=20:=by
 rw [<-YR,Qef];have h1:nd n.natAbs<=19:=Qis (by decide) (by omega);unfold Ya Y2;split
 ·simp [Qel];omega
 ·simp [Qel];omega
theorem Qei (m:Nat):val (Y2 m)=m:=Qyn _ _ (Qeu m).2.1
theorem Qct (m:Nat):∃ x l,Y2 m=x::l/\48<=x/\x<=57/\(l≠[]->x≠48):=by
 obtain ⟨g1,g2,g3⟩:=Qeu m;obtain ⟨j,hj⟩:∃ j,nd m=j+1:=⟨nd m - 1,by omega⟩;refine ⟨_,_,by unfold Y2;rw [hj];exact Qcu j m,by omega,by omega,fun hl=>?_⟩;rw [hj] at g2 g3;rcases g3 with g3 | g3
 ·have:j=0:=by omega
  subst this;exact absurd rfl hl
 ·rw [Ef] at g3;rw [Ee] at g2;have h1:1<=m / 10 ^ j:=(Nat.le_div_iff_mul_le (Nat.pow_pos (by decide))).2 (by omega);have h2:m / 10 ^ j < 10:=Nat.div_lt_of_lt_mul (by omega);omega
theorem Qrg {a b:Int} (h:Ya a=Ya b):a=b:=by
 obtain ⟨x,l,hx,h1,h2,_⟩:=Qct a.natAbs;obtain ⟨y,k,hy,h3,h4,_⟩:=Qct b.natAbs;unfold Ya at h;split at h<;>split at h
 ·have:=congrArg val (Ep.inj h).2;rw [Qei,Qei] at this;omega
 ·rw [hy] at h;have:=(Ep.inj h).1;omega
 ·rw [hx] at h;have:=(Ep.inj h).1;omega
 ·have:=congrArg val h;rw [Qei,Qei] at this;omega
theorem QKl {x:Int} {l:List Int} (h:∀ y∈x::l,48<=y/\y<=57) (h0:l≠[]->x≠48):Y2 (val (x::l)).toNat=x::l:=by
  have hb:=Qpk _ (x::l) rfl h;have hd:=Qym _ (x::l) rfl h;have hn:nd (val (x::l)).toNat=(x::l).length:=by
    refine Qev (by simp) (by omega) ?_;by_cases hl:l=[]
    · subst hl;exact .inl rfl
    · refine .inr ?_;have hx:=h x (Ek ..);have hx0:=h0 hl;rw [List.length_cons,Ef];have h2:((val (x::l)).toNat / 10 ^ l.length % 10:Nat)=(x - 48).toNat:=by
        have h3:Yx (l.length+1) (val (x::l)).toNat=x::l:=hd;rw [Qcu] at h3;have:=(Ep.inj h3).1;omega
      rcases Nat.lt_or_ge (val (x::l)).toNat (10 ^ l.length) with h3 | h3
      · rw [Nat.div_eq_of_lt h3] at h2;omega
      · exact h3
  unfold Y2;rw [hn];exact hd
end Go.Gw

end
section
namespace Go.Gw
open Go
theorem bnd {α β:Type} {e:Option α} {f:α->Option β} {r:β} {G:Prop} (h:e.bind f=some r) (k:∀ x,e=some x->f x=some r->G):G :=
 have ⟨x,a,b⟩:=Qcq h
 k x a b
abbrev Sno:Value:=.slice none 0 0
abbrev Frs (w:World) (v:Value):Prop:=∀ b,Qv v=some b->w.heap.size<=b
theorem Jq {v:Value} {b k:Nat} (h:∀ b,Qv v=some b->k<=b) (l:b < k):Qv v≠some b:=fun e=>Nat.lt_irrefl _ (Nat.lt_of_lt_of_le l (h b e))
section
variable {P:Program} [JD P] {n:Nat} {q:Post} {ρ:Env} {w:World} {T:TypeId}
theorem Zp {w1:World} {v:Value} (e:Ext w w1) (h:∀ b,Qv v=some b->w1.heap.size<=b):Frs w v:=fun b hb=>Nat.le_trans e.size (h b hb)
theorem X3 {a:Addr} {cs:List Value} (hat:At w a cs) (hT:Aggr P T cs.length):∀ w1,Rel w w1->(loadVar T a).run P w1=.ok (.agg cs.toArray) w1:=QFa hT hat
theorem Qo {α:Type} {u v z:α} {c:Operand} {x y:Code} {b:Bool} (h:cond b u v=z) (hc:Qn n ρ c=.bool b) (ht:b=true->u=z->WC P n x q ρ w) (hf:b=false->v=z->WC P n y q ρ w):WC P n (.cond c x y) q ρ w :=
 Y1 hc (fun e=>ht e (Xz e h)) (fun e=>hf e (Qhz e h))
end
end Go.Gw

end
section
namespace Go.Gw
open Go
section
variable {P:Program} [JD P] {n:Nat} {q:Post} {ρ:Env} {w:World}

def TX (P:Program) [JD P] (n:Nat) (ops:List Oper) (K:Env->World->Prop):Pl->Env->World->Prop
  | .done,ρ,w=>K ρ w
  | .p i r,ρ,w=>∃ o v,ops[i]?=some o/\Quiet P n ops.toArray (fun _=>True) o ρ v/\TX P n ops K r (Xm ρ o.dst v) w
  | .q i r,ρ,w=>∃ o v,ops[i]?=some o/\Quiet P n ops.toArray (Ext w) o ρ v/\TX P n ops K r (Xm ρ o.dst v) w
  | .e i r,ρ,w=>∃ o,ops[i]?=some o/\Stp P n ops.toArray o ρ w (fun ρ' w'=>Ext w w'/\TX P n ops K r ρ' w')
  | .b i r,ρ,w=>∃ o,ops[i]?=some o/\Stp P n ops.toArray o ρ w (fun ρ' w'=>TX P n ops K r ρ' w')
  | .f i r j s, ρ, w => (∃ o, ops[i]? = some o /\ Stp P n ops.toArray o ρ w (fun ρ' w' => Ext w w' /\ TX P n ops K r ρ' w')) /\
      (∃ o,ops[j]?=some o/\Stp P n ops.toArray o ρ w (fun ρ' w'=>Ext w w'/\TX P n ops K s ρ' w'))

def anyX (P:Program) [JD P] (ops:Array Oper) (Q:Exit->Act->World->Prop) (bs:List Nat) (Kt:Array Bool->Act->World->Prop):Nat->(World->Prop)->Array Bool->Act->World->Prop
 | 0,_,listed,a,w=>Kt listed a w
 | fuel+1,S,listed,a,w=>Region.ready .any ops listed≠[]/\∀ i∈Region.ready .any ops listed,Zw (JD.j (P:=P)) ops i (fun a' w'=>∃ S':World->Prop,(bs.contains i=false->S w->S' w'/\∀ x,S' x->S x)/\anyX P ops Q bs Kt fuel S' (listed.setIfInBounds i true) a' w') a w

theorem anyX.toAny {ops:Array Oper} {Q:Exit->Act->World->Prop} {bs:List Nat} {Kt:Array Bool->Act->World->Prop} (ht:∀ listed a w,Kt listed a w->Qcn (JD.j (P:=P)) ops Q 0 listed a w) :
  ∀ (fuel:Nat) (S:World->Prop) (listed:Array Bool) (a:Act) (w:World),anyX P ops Q bs Kt fuel S listed a w->Qcn (JD.j (P:=P)) ops Q fuel listed a w
 | 0,_,listed,a,w,h=>ht _ _ _ h
 | fuel+1,S,listed,a,w,h=>⟨fun h0=>absurd h0 h.1,fun i hi=>Qnl (fun a' w' ⟨S',_,h'⟩=>anyX.toAny ht fuel S' _ a' w' h') (h.2 i hi)⟩

theorem Qky {ops:Array Oper} {Q:Exit->Act->World->Prop} {bs:List Nat} {Si:World->Prop} {Kt:Array Bool->Act->World->Prop} {i:Nat} {oi:Oper} {v:Value} (hi:ops[i]?=some oi)
    (hb:(∀ b∈bs,Qdd ops ops.size b i=true)\/∀ w,Si w)
    (hsel:∀ (j:Nat) (o:Oper) cs b,ops[j]?=some o->o.op≠.select cs b) :
    ∀ (fuel:Nat) (S:World->Prop) (listed:Array Bool) (a:Act) (w:World),listed.size=ops.size->Closed ops listed->fuel+1=J1 listed ops.size ->
      (∀ j oj,ops[j]?=some oj->j≠i->listed.getD j true=false->(∀ e∈oj.after,Region.binds .any e=true->e.on≠i)->oi.apart ops oj=true) ->
      i∈Region.ready .any ops listed->YldJ P ops Si oi v a->Si w->((S w/\∀ x,S x->Si x)\/∀ w,Si w) ->
      anyX P ops Q bs Kt fuel S (listed.setIfInBounds i true) (a.put oi.dst v) w->anyX P ops Q bs Kt (fuel+1) S listed a w:=by
  have hlt:∀ {j:Nat} {listed:Array Bool},j∈Region.ready .any ops listed->j < ops.size:=fun hj=>by
    grind [Ea,mem_ready]
  have him:=(Ea.1 hi).1;intro fuel
  induction fuel with
  | zero =>
    intro S listed a w hls hcl hcnt _ hr hy hSw hD H;have hiu:=(mem_ready.1 hr).1;refine ⟨fun h=>(by simp_all),fun j hj=>?_⟩;by_cases hji:j=i
    · subst hji;exact hy.op hi hSw ⟨S,fun _ h=>⟨h,fun _ h=>h⟩,H⟩
    grind [QHh,mem_ready]
  | succ fuel ih =>
    intro S listed a w hls hcl hcnt hfree hr hy hSw hD H;have hiu:=(mem_ready.1 hr).1;refine ⟨fun h=>(by simp_all),fun j hj=>?_⟩;by_cases hji:j=i
    · subst hji;exact hy.op hi hSw ⟨S,fun _ h=>⟨h,fun _ h=>h⟩,H⟩
    · have h1:=H.2 j (ready_mono hj hji);obtain ⟨hjun,oj,hoj,hall⟩:=mem_ready.1 hj;have hnot:∀ e∈oj.after,Region.binds .any e=true->e.on≠i:=fun e he hb heq=>by
        grind
      have h2:=QDm hoj (hfree j oj hoj hji hjun hnot) (fun cs b=>hsel i oi cs b hi) (fun cs b=>hsel j oj cs b hoj) hy h1
      have hfree' : ∀ k ok, ops[k]? = some ok -> k ≠ i -> (listed.setIfInBounds j true).getD k true = false ->
          (∀ e∈ok.after,Region.binds .any e=true->e.on≠i)->oi.apart ops ok=true:=fun k ok hk hki hun hno=>hfree k ok hk hki (Q4q hun).1 hno
      have hbj:bs.contains j=false\/∀ w,Si w:=by
        rcases hb with hb | hb
        · left;cases hc:bs.contains j with
          | false=>rfl
          | true =>
            exfalso;have hm:=Qte hcl _ _ _ _ hoj hall (hb j (by grind));simp_all
        simp_all
      refine Qnl (fun a' w' h3=>?_) h2;obtain ⟨hy',S',hk',h4⟩:=h3;refine ⟨S',hk',?_⟩;have hD':(S' w'/\∀ x,S' x->Si x)\/∀ w,Si w:=by
        grind
      have hSw':Si w':=by
        grind
      refine ih S' (listed.setIfInBounds j true) a' w' (by grind) (hcl.set hj) (by grind [JM]) hfree' (ready_mono hr (Ne.symm hji)) hy' hSw' hD' ?_
      grind [Array.setIfInBounds_comm]

theorem TX.toX {ops:List Oper} {bs:List Nat} {K:Env->World->Prop} (hsel:Region.noSelect ops.toArray=true) (hK:∀ ρ w,K ρ w->q.norm ρ w) :
  ∀ (p:Pl) (listed:Array Bool) (ρ:Env) (w:World),listed.size=ops.toArray.size->Closed ops.toArray listed->J1 listed ops.toArray.size=p.len->JH ops.toArray bs p listed=true ->
  TX P n ops K p ρ w->anyX P ops.toArray (q.Q n) bs (fun listed a w=>Qcn (JD.j (P:=P)) ops.toArray (q.Q n) 0 listed a w) p.len (Ext w) listed (act n ρ) w
 | .done,listed,ρ,w,_,_,_,hok,h=>⟨by grind [JH],ρ,rfl,hK _ _ h⟩
 | .p i r,listed,ρ,w,hls,hcl,hc,hok,h=>by
  simp only [JH,Eb] at hok;obtain ⟨⟨hf,hr⟩,hrest⟩:=hok;obtain ⟨o,v,hi',hq,ht⟩:=h;have hi:ops.toArray[i]?=some o:=by grind
  have him:=(Ea.1 hi).1;have hr:i∈Region.ready .any ops.toArray listed:=by grind
  have hc':=JM (listed:=listed) him (by grind [mem_ready]);simp only [Pl.len] at hc;refine Qky (Si:=fun _=>True) hi (.inr fun _=>trivial) (Region.noSelect_spec hsel) r.len (Ext w) listed _ w hls hcl hc.symm (Region.free_spec hi hf) hr hq.yields trivial (.inr fun _=>trivial) ?_;rw [Jx];exact TX.toX hsel hK r _ _ w (by grind) (hcl.set hr) (by omega) hrest ht
 | .q i r,listed,ρ,w,hls,hcl,hc,hok,h=>by
  simp only [JH,Eb,List.all_eq_true] at hok;obtain ⟨⟨⟨hm,hf⟩,hr⟩,hrest⟩:=hok;obtain ⟨o,v,hi',hq,ht⟩:=h;have hi:ops.toArray[i]?=some o:=by grind
  have him:=(Ea.1 hi).1;have hr:i∈Region.ready .any ops.toArray listed:=by grind
  have hc':=JM (listed:=listed) him (by grind [mem_ready]);simp only [Pl.len] at hc;refine Qky (Si:=Ext w) hi (.inl hm) (Region.noSelect_spec hsel) r.len (Ext w) listed _ w hls hcl hc.symm (Region.free_spec hi hf) hr hq.yields (Ed _ _) (.inl ⟨Ed _ _,fun _ h=>h⟩) ?_;rw [Jx];exact TX.toX hsel hK r _ _ w (by grind) (hcl.set hr) (by omega) hrest ht
 | .e i r,listed,ρ,w,hls,hcl,hc,hok,h=>by
  simp only [JH,Eb,beq_iff_eq] at hok;obtain ⟨hr,hnb,hrest⟩:=hok;obtain ⟨o,hi',hs⟩:=h;have hi:ops.toArray[i]?=some o:=by grind
  have hr':i∈Region.ready .any ops.toArray listed:=by grind
  have hc':=JM (listed:=listed) (Ea.1 hi).1 (by grind [mem_ready]);simp only [Pl.len] at hc;refine ⟨by grind,fun j hj=>?_⟩;have hj:j=i:=by simp_all
  subst hj;exact hs.toOp hi fun ρ w' h'=>⟨Ext w',fun _ _=>⟨Ed _ _,fun _ hx=>Eq_ h'.1 hx⟩,TX.toX hsel hK r _ _ w' (by grind) (hcl.set hr') (by omega) hrest h'.2⟩
 | .b i r,listed,ρ,w,hls,hcl,hc,hok,h=>by
  simp only [JH,Eb,beq_iff_eq] at hok;obtain ⟨hr,hib,hnq,hrest⟩:=hok;obtain ⟨o,hi',hs⟩:=h;have hi:ops.toArray[i]?=some o:=by grind
  have hr':i∈Region.ready .any ops.toArray listed:=by grind
  have hc':=JM (listed:=listed) (Ea.1 hi).1 (by grind [mem_ready]);simp only [Pl.len] at hc;refine ⟨by grind,fun j hj=>?_⟩;have hj:j=i:=by simp_all
  subst hj;refine hs.toOp hi fun ρ w' h'=>⟨Ext w',?_,TX.toX hsel hK r _ _ w' (by grind) (hcl.set hr') (by omega) hrest h'⟩;simp_all
 | .f i r j s,listed,ρ,w,hls,hcl,hc,hok,h=>by
  simp only [JH,Eb,beq_iff_eq] at hok;obtain ⟨hr,hlen,hn1,hn2,hrest,hrest2⟩:=hok;obtain ⟨⟨o,hi',hs⟩,o2,hj',hs2⟩:=h;have hi:ops.toArray[i]?=some o:=by grind
  have hj2:ops.toArray[j]?=some o2:=by grind
  have hri:i∈Region.ready .any ops.toArray listed:=by grind
  have hrj:j∈Region.ready .any ops.toArray listed:=by grind
  have hci:=JM (listed:=listed) (Ea.1 hi).1 (by grind [mem_ready]);have hcj:=JM (listed:=listed) (Ea.1 hj2).1 (by grind [mem_ready]);have hlen:r.len=s.len:=by simp_all
  simp only [Pl.len] at hc;refine ⟨by grind,fun k hk=>?_⟩;rw [hr] at hk;rcases El.1 hk with rfl | hk
  ·exact hs.toOp hi fun ρ w' h'=>⟨Ext w',fun _ _=>⟨Ed _ _,fun _ hx=>Eq_ h'.1 hx⟩,TX.toX hsel hK r _ _ w' (by grind) (hcl.set hri) (by omega) hrest h'.2⟩
  ·have hk:k=j:=by grind
   subst hk;have:=fun ρ w' (h':Ext w w'/\TX P n ops K s ρ w')=>TX.toX hsel hK s (listed.setIfInBounds k true) ρ w' (by grind) (hcl.set hrj) (by omega) hrest2 h'.2
   refine hs2.toOp hj2 fun ρ w' h'=>⟨Ext w',fun _ _=>⟨Ed _ _,fun _ hx=>Eq_ h'.1 hx⟩,?_⟩;simp_all

theorem Qqf {id:Nat} {ops:List Oper} (hm:P.follows .mixedOrders=true) (p:Pl) (hok:QDs ops.toArray p=true) (h:∀ w1,Ext w w1->TX P n ops q.norm p ρ w1):WC P n (.region id ops.toArray true) q ρ w:=by
 simp only [QDs,Eb] at hok;obtain ⟨hsel,hl,hp⟩:=hok;have hl:p.len=ops.toArray.size:=by simp_all
 refine QHo hm ?_;have h1:=TX.toX (q:=q) hsel (fun _ _ h=>h) p (En ops.toArray.size false) ρ { w with drawn:=w.drawn+1 } (by simp) (Closed.none _ _) (by rw [Qwd _ _ (Er _),hl]) hp (h _ (Ext.drew w))
 grind [anyX.toAny]

section
variable {K:Env->World->Prop} {ops:List Oper} {o:Oper} {i:Nat} {r:Pl} {v:Value}
theorem Qqe (h:K ρ w):TX P n ops K .done ρ w:=h
theorem YC (hi:ops[i]?=some o) (hw:XQ ops.toArray o n ρ=true) (hy:∀ w',Yl P n ρ o w' v) (h:TX P n ops K r (Xm ρ o.dst v) w):TX P n ops K (.p i r) ρ w :=
 ⟨o,v,hi,.inl ⟨hw,fun w' _=>hy w'⟩,h⟩
theorem Qea (hi:ops[i]?=some o) (hw:XQ ops.toArray o n ρ=true) (hy:∀ w',Ext w w'->Yl P n ρ o w' v) (h:TX P n ops K r (Xm ρ o.dst v) w):TX P n ops K (.q i r) ρ w :=
 ⟨o,v,hi,.inl ⟨hw,hy⟩,h⟩
theorem QIi (hi:ops[i]?=some o) (hw:XQ ops.toArray o n ρ=true) (h:Eff P o n ρ w (fun v w'=>Ext w w'/\TX P n ops K r (Xm ρ o.dst v) w')):TX P n ops K (.e i r) ρ w :=
 ⟨o,hi,by simp_all [if_pos,Stp]⟩
theorem QIh (hi:ops[i]?=some o) (hw:XQ ops.toArray o n ρ=true) (h:Eff P o n ρ w (fun v w'=>TX P n ops K r (Xm ρ o.dst v) w')):TX P n ops K (.b i r) ρ w :=
 ⟨o,hi,by simp_all [if_pos,Stp]⟩
end
end
end Go.Gw

end
section
namespace Go.Gw
open Go
section
variable {P:Program} [JD P] {n:Nat} {q:Post} {ρ:Env} {w:World}

inductive Px where
 | done
 | p (i:Nat) (r:Px)
 | q (i:Nat) (r:Px)
 | m (s:Px)
 | a (i:Nat) (r s:Px)
 | c (i:Nat) (r s:Px)
 | z
def Px.hasQ:Px->Bool
 | .done=>false
 | .p _ r=>r.hasQ
 | .q _ _=>true
 | .m s=>s.hasQ
 | .a _ r s=>r.hasQ||s.hasQ
 | .c _ r s=>r.hasQ||s.hasQ
 | .z=>false
def Px.len:Px->Nat
 | .done=>0
 | .p _ r=>r.len+1
 | .q _ r=>r.len+1
 | .m s=>s.len
 | .a _ r _=>r.len+1
 | .c _ r _=>r.len+1
 | .z=>0
def Px.brk:Px->List Nat
 | .done=>[]
 | .p _ r=>r.brk
 | .q _ r=>r.brk
 | .m s=>s.brk
 | .a _ r s=>r.brk++s.brk
 | .c i r s=>i::(r.brk++s.brk)
 | .z=>[]
def Px.heads:Px->List Nat
 | .a i _ s=>i::s.heads
 | .c i _ s=>i::s.heads
 | _=>[]
def Px.inChain:Px->Bool
 | .a _ _ _=>true
 | .c _ _ _=>true
 | .z=>true
 | _=>false
def Px.chain (k:Nat):Px->Bool
 | .a _ r s=>Nat.beq (r.len+1) k&&(!r.inChain&&s.chain k)
 | .c _ r s=>Nat.beq (r.len+1) k&&(!r.inChain&&s.chain k)
 | .z=>true
 | _=>false
def TZ (P:Program) [JD P] (n:Nat) (ops:List Oper) (K:Env->World->Prop):Px->Env->World->Prop
 | .done,ρ,w=>K ρ w
 | .p i r,ρ,w=>∃ o v,ops[i]?=some o/\Quiet P n ops.toArray (fun _=>True) o ρ v/\TZ P n ops K r (Xm ρ o.dst v) w
 | .q i r,ρ,w=>∃ o v,ops[i]?=some o/\Quiet P n ops.toArray (Ext w) o ρ v/\TZ P n ops K r (Xm ρ o.dst v) w
 | .m s,ρ,w=>TZ P n ops K s ρ w
 | .a i r s,ρ,w=>(∃ o,ops[i]?=some o/\Stp P n ops.toArray o ρ w (fun ρ' w'=>Ext w w'/\TZ P n ops K r ρ' w'))/\TZ P n ops K s ρ w
 | .c i r s,ρ,w=>(∃ o,ops[i]?=some o/\Stp P n ops.toArray o ρ w (fun ρ' w'=>TZ P n ops K r ρ' w'))/\TZ P n ops K s ρ w
 | .z,_,_=>True
def Jr (ops:Array Oper) (bs:List Nat):Px->Array Bool->Bool
 | .done,listed=>(Region.ready .any ops listed).isEmpty
 | .p i r,listed=>!r.inChain&&Region.free .any ops listed i&&(Region.ready .any ops listed).contains i&&Jr ops bs r (listed.setIfInBounds i true)
 | .q i r,listed=>!r.inChain&&(bs.all fun b=>Qdd ops ops.size b i)&&Region.free .any ops listed i&&(Region.ready .any ops listed).contains i&&Jr ops bs r (listed.setIfInBounds i true)
 | .m s,listed=>Region.ready .any ops listed == s.heads&&(!s.heads.isEmpty&&(s.chain s.len&&Jr ops bs s listed))
 | .a i r s,listed=>!bs.contains i&&(Jr ops bs r (listed.setIfInBounds i true)&&Jr ops bs s listed)
 | .c i r s,listed=>bs.contains i&&(!r.hasQ&&(Jr ops bs r (listed.setIfInBounds i true)&&Jr ops bs s listed))
 | .z,_=>true
def QDt (ops:Array Oper) (p:Px):Bool:=Region.noSelect ops&&(Nat.beq p.len ops.size&&Jr ops p.brk p (En ops.size false))
def BrX (P:Program) [JD P] (n:Nat) (q:Post) (ops:List Oper) (bs:List Nat) (k:Nat) (listed:Array Bool) (ρ:Env) (w:World) (i:Nat):Prop :=
 Zw (JD.j (P:=P)) ops.toArray i (fun a' w'=>∃ S':World->Prop,(bs.contains i=false->Ext w w->S' w'/\∀ x,S' x->Ext w x)/\anyX P ops.toArray (q.Q n) bs (fun listed a w=>Qcn (JD.j (P:=P)) ops.toArray (q.Q n) 0 listed a w) k S' (listed.setIfInBounds i true) a' w') (act n ρ) w
theorem TZ.toX {ops:List Oper} {bs:List Nat} {K:Env->World->Prop} (hsel:Region.noSelect ops.toArray=true) (hK:∀ ρ w,K ρ w->q.norm ρ w) :
  ∀ (p:Px) (listed:Array Bool) (ρ:Env) (w:World),listed.size=ops.toArray.size->Closed ops.toArray listed->Jr ops.toArray bs p listed=true->TZ P n ops K p ρ w ->
   (p.inChain=false->J1 listed ops.toArray.size=p.len->anyX P ops.toArray (q.Q n) bs (fun listed a w=>Qcn (JD.j (P:=P)) ops.toArray (q.Q n) 0 listed a w) p.len (Ext w) listed (act n ρ) w) /\
   (∀ k,p.chain (k+1)=true->J1 listed ops.toArray.size=k+1->(∀ i∈p.heads,i∈Region.ready .any ops.toArray listed)->∀ i∈p.heads,BrX P n q ops bs k listed ρ w i)
 | .done,listed,ρ,w,_,_,hok,h=>⟨fun _ _=>⟨by grind [Jr],ρ,rfl,hK _ _ h⟩,fun k hc=>by cases hc⟩
 | .p i r,listed,ρ,w,hls,hcl,hok,h=>⟨fun _ hc=>by
  simp only [Jr,Eb,Ec] at hok;obtain ⟨⟨⟨hnc,hf⟩,hr⟩,hrest⟩:=hok;obtain ⟨o,v,hi',hq,ht⟩:=h;have hi:ops.toArray[i]?=some o:=by grind
  have him:=(Ea.1 hi).1;have hr:i∈Region.ready .any ops.toArray listed:=by grind
  have hc':=JM (listed:=listed) him (by grind [mem_ready]);simp only [Px.len] at hc;refine Qky (Si:=fun _=>True) hi (.inr fun _=>trivial) (Region.noSelect_spec hsel) r.len _ listed _ w hls hcl hc.symm (Region.free_spec hi hf) hr hq.yields trivial (.inr fun _=>trivial) ?_;rw [Jx];exact (TZ.toX hsel hK r _ _ w (by grind) (hcl.set hr) hrest ht).1 hnc (by omega),fun k hc=>by cases hc⟩
 | .q i r,listed,ρ,w,hls,hcl,hok,h=>⟨fun _ hc=>by
  simp only [Jr,Eb,List.all_eq_true,Ec] at hok;obtain ⟨⟨⟨⟨hnc,hm⟩,hf⟩,hr⟩,hrest⟩:=hok;obtain ⟨o,v,hi',hq,ht⟩:=h;have hi:ops.toArray[i]?=some o:=by grind
  have him:=(Ea.1 hi).1;have hr:i∈Region.ready .any ops.toArray listed:=by grind
  have hc':=JM (listed:=listed) him (by grind [mem_ready]);simp only [Px.len] at hc;refine Qky (Si:=Ext w) hi (.inl hm) (Region.noSelect_spec hsel) r.len (Ext w) listed _ w hls hcl hc.symm (Region.free_spec hi hf) hr hq.yields (Ed _ _) (.inl ⟨Ed _ _,fun _ h=>h⟩) ?_;rw [Jx];exact (TZ.toX hsel hK r _ _ w (by grind) (hcl.set hr) hrest ht).1 hnc (by omega),fun k hc=>by cases hc⟩
 | .m s,listed,ρ,w,hls,hcl,hok,h=>⟨fun _ hc=>by
  simp only [Jr,Eb,beq_iff_eq,Ec] at hok;obtain ⟨hr,hne,hch,hok⟩:=hok;have hh:=(TZ.toX hsel hK s listed ρ w hls hcl hok h).2;simp only [Px.len] at hc ⊢;cases hl:s.len with
  | zero =>
   exfalso;cases s with
   | a i r s=>trivial
   | c i r s=>trivial
   | _=>trivial
  | succ k =>
   rw [hl] at hch hc;refine ⟨fun e=>by simp_all,fun i hi=>?_⟩;exact hh k hch hc (fun i hi=>by simp_all) i (by simp_all),fun k hc=>by cases hc⟩
 | .a i r s,listed,ρ,w,hls,hcl,hok,h=>⟨fun hc=>(by cases hc),fun k hc hu hrd j hj=>by
  simp only [Jr,Eb,Ec] at hok;obtain ⟨hnb,hokr,hoks⟩:=hok;simp only [Px.chain,Eb,Ec,Nat.beq_eq] at hc;obtain ⟨hl,hnc,hcs⟩:=hc;obtain ⟨⟨o,hi',hs⟩,h2⟩:=h;rcases El.1 hj with rfl | hj
  ·have hi:ops.toArray[j]?=some o:=by grind
   have hr':=hrd j (Ek ..);have hc':=JM (listed:=listed) (Ea.1 hi).1 (by grind [mem_ready]);refine hs.toOp hi fun ρ w' h'=>⟨Ext w',fun _ _=>⟨Ed _ _,fun _ hx=>Eq_ h'.1 hx⟩,?_⟩;have:=(TZ.toX hsel hK r _ ρ w' (by grind) (hcl.set hr') hokr h'.2).1 hnc (by omega);simp_all
  ·exact (TZ.toX hsel hK s listed ρ w hls hcl hoks h2).2 k hcs hu (fun i hi=>hrd i (Eo _ hi)) j hj⟩
 | .c i r s,listed,ρ,w,hls,hcl,hok,h=>⟨fun hc=>(by cases hc),fun k hc hu hrd j hj=>by
  simp only [Jr,Eb,Ec] at hok;obtain ⟨hib,hnq,hokr,hoks⟩:=hok;simp only [Px.chain,Eb,Ec,Nat.beq_eq] at hc;obtain ⟨hl,hnc,hcs⟩:=hc;obtain ⟨⟨o,hi',hs⟩,h2⟩:=h;rcases El.1 hj with rfl | hj
  ·have hi:ops.toArray[j]?=some o:=by grind
   have hr':=hrd j (Ek ..);have hc':=JM (listed:=listed) (Ea.1 hi).1 (by grind [mem_ready]);refine hs.toOp hi fun ρ w' h'=>⟨Ext w',fun hb=>(by simp_all),?_⟩;have:=(TZ.toX hsel hK r _ ρ w' (by grind) (hcl.set hr') hokr h').1 hnc (by omega);simp_all
  ·exact (TZ.toX hsel hK s listed ρ w hls hcl hoks h2).2 k hcs hu (fun i hi=>hrd i (Eo _ hi)) j hj⟩
 | .z,listed,ρ,w,_,_,_,_=>⟨fun hc=>(by cases hc),fun _ _ _ _ i hi=>(by cases hi)⟩

theorem Xw {id:Nat} {ops:List Oper} (hm:P.follows .mixedOrders=true) (p:Px) (hok:QDt ops.toArray p=true) (hnc:p.inChain=false) (h:∀ w1,Ext w w1->TZ P n ops q.norm p ρ w1):WC P n (.region id ops.toArray true) q ρ w:=by
 simp only [QDt,Eb] at hok;obtain ⟨hsel,hl,hp⟩:=hok;have hl:p.len=ops.toArray.size:=by simp_all
 refine QHo hm ?_;have h1:=(TZ.toX (q:=q) hsel (fun _ _ h=>h) p (En ops.toArray.size false) ρ { w with drawn:=w.drawn+1 } (by simp) (Closed.none _ _) hp (h _ (Ext.drew w))).1 hnc (by rw [Qwd _ _ (Er _),hl])
 grind [anyX.toAny]

section
variable {K:Env->World->Prop} {ops:List Oper} {o:Oper} {i:Nat} {r s:Px} {v:Value}
theorem Xn (h:K ρ w):TZ P n ops K .done ρ w:=h
theorem Qw (hi:ops[i]?=some o) (hw:XQ ops.toArray o n ρ=true) (hy:∀ w',Yl P n ρ o w' v) (h:TZ P n ops K r (Xm ρ o.dst v) w):TZ P n ops K (.p i r) ρ w :=
 ⟨o,v,hi,.inl ⟨hw,fun w' _=>hy w'⟩,h⟩
theorem Qbm (hi:ops[i]?=some o) (hw:XQ ops.toArray o n ρ=true) (hy:∀ w',Ext w w'->Yl P n ρ o w' v) (h:TZ P n ops K r (Xm ρ o.dst v) w):TZ P n ops K (.q i r) ρ w :=
 ⟨o,v,hi,.inl ⟨hw,hy⟩,h⟩
theorem QIk (b:Bool) (hi:ops[i]?=some o) (hw:XQ ops.toArray o n ρ=b) (hy:∀ w',b=true->Yl P n ρ o w' v) (h:TZ P n ops K r (Xm ρ o.dst (gd b v)) w):TZ P n ops K (.p i r) ρ w:=by
 cases b with
 | true=>grind [Qw,Qi]
 | false=>rw [Qlw rfl] at h;exact ⟨o,undef,hi,.inr ⟨hw,rfl⟩,h⟩
theorem QIl (b:Bool) (hi:ops[i]?=some o) (hw:XQ ops.toArray o n ρ=b) (hy:∀ w',Ext w w'->b=true->Yl P n ρ o w' v) (h:TZ P n ops K r (Xm ρ o.dst (gd b v)) w):TZ P n ops K (.q i r) ρ w:=by
 cases b with
 | true=>grind [Qbm,Qi]
 | false=>rw [Qlw rfl] at h;exact ⟨o,undef,hi,.inr ⟨hw,rfl⟩,h⟩
theorem Qho (h:TZ P n ops K s ρ w):TZ P n ops K (.m s) ρ w:=h
theorem Qkr (h:∃ o,ops[i]?=some o/\Stp P n ops.toArray o ρ w (fun ρ' w'=>Ext w w'/\TZ P n ops K r ρ' w')) (h2:TZ P n ops K s ρ w):TZ P n ops K (.a i r s) ρ w:=⟨h,h2⟩
theorem QIj (h:∃ o,ops[i]?=some o/\Stp P n ops.toArray o ρ w (fun ρ' w'=>TZ P n ops K r ρ' w')) (h2:TZ P n ops K s ρ w):TZ P n ops K (.c i r s) ρ w:=⟨h,h2⟩
theorem Qau (hi:ops[i]?=some o) (hw:XQ ops.toArray o n ρ=false) (h:TZ P n ops K r (Xm ρ o.dst undef) w):TZ P n ops K (.p i r) ρ w:=⟨o,undef,hi,.inr ⟨hw,rfl⟩,h⟩
theorem Qkt (hi:ops[i]?=some o) (hw:XQ ops.toArray o n ρ=false) (h:TZ P n ops K r (Xm ρ o.dst undef) w):TZ P n ops K (.q i r) ρ w:=⟨o,undef,hi,.inr ⟨hw,rfl⟩,h⟩
theorem Qhn (h:∃ o,ops[i]?=some o/\Stp P n ops.toArray o ρ w (fun ρ' w'=>Ext w w'/\TZ P n ops K r ρ' w')):TZ P n ops K (.a i r .z) ρ w:=⟨h,trivial⟩
theorem QV (h:∃ o,ops[i]?=some o/\Stp P n ops.toArray o ρ w (fun ρ' w'=>Ext w w'/\TZ P n ops K r ρ' w')):TZ P n ops K (.m (.a i r .z)) ρ w:=⟨h,trivial⟩
theorem Yo (h:∃ o,ops[i]?=some o/\Stp P n ops.toArray o ρ w (fun ρ' w'=>TZ P n ops K r ρ' w')):TZ P n ops K (.m (.c i r .z)) ρ w:=⟨h,trivial⟩
theorem Qwp (hi:ops[i]?=some o) (hw:XQ ops.toArray o n ρ=true) (h:Eff P o n ρ w (fun v w'=>Ext w w'/\TZ P n ops K r (Xm ρ o.dst v) w')):∃ o,ops[i]?=some o/\Stp P n ops.toArray o ρ w (fun ρ' w'=>Ext w w'/\TZ P n ops K r ρ' w') :=
 ⟨o,hi,by simp_all [if_pos,Stp]⟩
theorem Jl (hi:ops[i]?=some o) (hw:XQ ops.toArray o n ρ=true) (h:Eff P o n ρ w (fun v w'=>TZ P n ops K r (Xm ρ o.dst v) w')):∃ o,ops[i]?=some o/\Stp P n ops.toArray o ρ w (fun ρ' w'=>TZ P n ops K r ρ' w') :=
 ⟨o,hi,by simp_all [if_pos,Stp]⟩
theorem Qwq (hi:ops[i]?=some o) (hw:XQ ops.toArray o n ρ=true) (hy:Yl P n ρ o w v) (h:TZ P n ops K r (Xm ρ o.dst v) w):∃ o,ops[i]?=some o/\Stp P n ops.toArray o ρ w (fun ρ' w'=>Ext w w'/\TZ P n ops K r ρ' w') :=
 Qwp hi hw ⟨hy.1,.inl ⟨v,hy.2,Ed _ _,h⟩⟩
theorem Qks (b:Bool) (V:Value) (hi:ops[i]?=some o) (hw:XQ ops.toArray o n ρ=b) (ht:b=true->Eff P o n ρ w (fun v w'=>v=V/\Ext w w')) (h:∀ w',Ext w w'->Ext w w'/\TZ P n ops K r (Xm ρ o.dst (gd b V)) w') :
  ∃ o,ops[i]?=some o/\Stp P n ops.toArray o ρ w (fun ρ' w'=>Ext w w'/\TZ P n ops K r ρ' w'):=by
 refine ⟨o,hi,?_⟩;unfold Stp;cases b with
 | true =>
  rw [if_pos hw];refine (ht rfl).mono fun v w' ⟨hv,he⟩=>?_
  grind [Qi]
 | false =>
  simp_all [Qlw,Ed,if_neg]
end
end
end Go.Gw

end
section
namespace Go.Gw
open Go
section
variable {P:Program} [JD P] {n:Nat} {q:Post} {ρ:Env} {w:World} {d:Option Nat} {t T:TypeId} {p:String} {af:Array Edge} {gu:Option (Nat×Bool)} {x:Operand} {v:Value} {b:Bool}
section
variable {ops:Array Oper} {K:Env->World->Prop} {os:List Oper} {o:Oper} {e:Op}
theorem Qa (hy:Yl P n ρ ⟨d,e,t,p,af,none⟩ w v) (h:T0 P n ops K os (Xm ρ d v) w):T0 P n ops K (⟨d,e,t,p,af,none⟩::os) ρ w:=XO v hy h
theorem Qc (hx:Qn n ρ x=v) (h:T0 P n ops K os (Xm ρ d v) w):T0 P n ops K (⟨d,.move x,t,p,af,none⟩::os) ρ w:=Q5 v hx h
theorem Qe (hx:Qn n ρ x=v) (h:T0 P n ops K os (Xm ρ d v) w):T0 P n ops K (⟨d,.assign x,t,p,af,none⟩::os) ρ w:=XH v hx h
theorem QC {id:Nat} {c:Code} (hx:Qn n ρ x=v) (h:WC P n c q (Xm ρ d v) w):WC P n (.seq (.region id #[⟨d,.assign x,t,p,af,none⟩] false) c) q ρ w:=Qav v hx h
theorem Qae {id:Nat} {c:Code} (hx:Qn n ρ x=v) (h:WC P n c q (Xm ρ d v) w):WC P n (.seq (.region id #[⟨d,.move x,t,p,af,none⟩] false) c) q ρ w:=Qws v hx h
theorem Ql (hw:XQ ops o n ρ=b) (hy:b=true->Yl P n ρ o w v) (h:T0 P n ops K os (Xm ρ o.dst (gd b v)) w):T0 P n ops K (o::os) ρ w:=Qdx b hw hy h
theorem QD {j d:Nat} (h:(o.guard,(ops[j]?).bind (·.dst),Nat.blt d n,ρ d)=(some (j,true),some d,true,.bool b)):XQ ops o n ρ=b:=by
 simp only [Prod.mk.injEq] at h;exact Q5a h.1 h.2.1 h.2.2.1 h.2.2.2
theorem Qx {j d:Nat} (h:(o.guard,(ops[j]?).bind (·.dst),Nat.blt d n,ρ d)=(some (j,false),some d,true,.bool b)):XQ ops o n ρ=!b:=by
 simp only [Prod.mk.injEq] at h;exact Qci h.1 h.2.1 h.2.2.1 h.2.2.2
theorem Qm {fs:Array Field} {i:Nat} {f:Field} {a:Addr} (off:Nat) (hu:P.underlying T=some (.struct fs)) (hs:∃ k,Xh P f.type (k+1)) (hx:Qn n ρ x=.pointer (some a)) (hf:(fs[i]?,f.offset,v)=(some f,off,.pointer (some (a.add off)))):Yl P n ρ ⟨d,.fieldAddr T x i,t,p,af,gu⟩ w v:=by
 simp only [Prod.mk.injEq] at hf;exact ZT off hu hf.1 hf.2.1 hs hx hf.2.2
end
section
variable {K:Env->World->Prop} {ops:List Oper} {o:Oper} {i:Nat} {r:Px}
theorem X0 (hi:ops[i]?=some o) (hw:XQ ops.toArray o n ρ=b) (hy:∀ w',b=true->Yl P n ρ o w' v) (h:TZ P n ops K r (Xm ρ o.dst (gd b v)) w):TZ P n ops K (.p i r) ρ w:=QIk b hi hw hy h
theorem ZX (hi:ops[i]?=some o) (hw:XQ ops.toArray o n ρ=b) (hy:∀ w',Ext w w'->b=true->Yl P n ρ o w' v) (h:TZ P n ops K r (Xm ρ o.dst (gd b v)) w):TZ P n ops K (.q i r) ρ w:=QIl b hi hw hy h
theorem Qy (hi:(ops[i]?,XQ ops.toArray o n ρ)=(some o,true)) (hy:∀ w',Yl P n ρ o w' v) (h:TZ P n ops K r (Xm ρ o.dst v) w):TZ P n ops K (.p i r) ρ w:=Qw (congrArg (·.1) hi) (congrArg (·.2) hi) hy h
theorem QX (hi:(ops[i]?,XQ ops.toArray o n ρ)=(some o,true)) (hy:∀ w',Ext w w'->Yl P n ρ o w' v) (h:TZ P n ops K r (Xm ρ o.dst v) w):TZ P n ops K (.q i r) ρ w:=Qbm (congrArg (·.1) hi) (congrArg (·.2) hi) hy h
theorem QS (hi:(ops[i]?,XQ ops.toArray o n ρ)=(some o,true)) (h:Eff P o n ρ w (fun v w'=>Ext w w'/\TZ P n ops K r (Xm ρ o.dst v) w')):∃ o,ops[i]?=some o/\Stp P n ops.toArray o ρ w (fun ρ' w'=>Ext w w'/\TZ P n ops K r ρ' w'):=Qwp (congrArg (·.1) hi) (congrArg (·.2) hi) h
theorem Zm (hi:(ops[i]?,XQ ops.toArray o n ρ)=(some o,true)) (h:Eff P o n ρ w (fun v w'=>TZ P n ops K r (Xm ρ o.dst v) w')):∃ o,ops[i]?=some o/\Stp P n ops.toArray o ρ w (fun ρ' w'=>TZ P n ops K r ρ' w'):=Jl (congrArg (·.1) hi) (congrArg (·.2) hi) h
end
theorem Qhx (v:Value) {w w':World} (h:Ext w w'):Chg [v] w w':=h.mono (fun _ h=>by cases h)
end
end Go.Gw

end
