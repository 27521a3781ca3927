/- Laws of the walk. Condition: each theorem says its own. -/
import Derived.Test.YtjladlhgnoiagaaGreatDoorGwCj6
import Derived.IntWalk
import Derived.Test.YtjladlhgnoiagaaGreatDoorGwLib21
set_option linter.unusedVariables false
set_option linter.unusedSimpArgs false
set_option linter.unusedSectionVars false
open Array renaming getElem?_eq_some_iff→Ea
open Bool renaming and_eq_true→Eb,not_eq_true'→Ec
open List renaming eq_nil_of_length_eq_zero→Ed,append_assoc→Eg,mem_append_left→Eh,dropLast_concat_getLast→Ej,mem_cons_self→El,mem_singleton→Em,drop_eq_getElem_cons→En,getElem?_eq_some_iff→Eo,map→Er,mem_cons_of_mem→Es,mem_cons→Et,cons→Eu
open Nat renaming pow_succ→Ee,add_sub_cancel→Ef,pow_le_pow_right→Ei,mul_one→Ek,add_sub_cancel_left→Ep,le_refl→Eq_,add_zero→Ev
section
set_option linter.unusedSectionVars false
namespace Go.Gw
open Go

theorem XZ {x:Int} (h:-9223372036854775808<=x/\x<=9223372036854775807):w64 x=x:=Go.IntWalk.i64_in x h

def Runs {α:Type} (e:Option α) (Q:α->Prop):Prop:=∃ a,e=some a/\Q a

section
variable {α β σ μ:Type} {Q:α->Prop} {e e':Option α}
theorem Runs.some {a:α} (h:Q a):Runs (some a) Q:=⟨a,rfl,h⟩
theorem Runs.bind {e:Option β} {f:β->Option α} (h:Runs e fun b=>Runs (f b) Q):Runs (e.bind f) Q:=by
 obtain ⟨b,rfl,a,ha,hq⟩:=h;exact ⟨a,ha,hq⟩
theorem Runs.mono {Q':α->Prop} (h:Runs e Q) (hm:∀ a,Q a->Q' a):Runs e Q':=by obtain ⟨a,ha,hq⟩:=h;exact ⟨a,ha,hm _ hq⟩
theorem Runs.eq {a:α} (h:Runs e (·=a)):e=.some a:=by obtain ⟨b,hb,rfl⟩:=h;exact hb
theorem Runs.of_eq {a:α} (h:e=.some a) (hq:Q a):Runs e Q:=⟨a,h,hq⟩
theorem Runs.call {e:Option β} {f:β->Option α} {b:β} (h:e=.some b) (hq:Runs (f b) Q):Runs (e.bind f) Q:=by simp_all
theorem Runs.callR {e:Option β} {f:β->Option α} {R:β->Prop} (h:Runs e R) (hq:∀ b,R b->Runs (f b) Q):Runs (e.bind f) Q:=by obtain ⟨b,rfl,hb⟩:=h;grind
theorem Runs.bif {b:Bool} (ht:b=true->Runs e Q) (hf:b=false->Runs e' Q):Runs (bif b then e else e') Q:=by
 grind
theorem Runs.bif_t {b:Bool} (hb:b=true) (ht:Runs e Q):Runs (bif b then e else e') Q:=by simp_all
theorem Runs.bif_f {b:Bool} (hb:b=false) (hf:Runs e' Q):Runs (bif b then e else e') Q:=by simp_all
theorem Runs.jl {b:α} {f:μ->Option α} (h:Q b):Runs (XK (.inl b) f) Q:=⟨b,rfl,h⟩
theorem Runs.jr {m:μ} {f:μ->Option α} (h:Runs (f m) Q):Runs (XK (.inr m) f) Q:=h
def Rnd (I:σ->Prop) (m:σ->Nat) (Q:β->Prop) (s:σ):σ⊕β->Prop
 | .inl s'=>I s'/\m s' < m s
 | .inr o=>Q o
theorem Runs.loop {step:σ->Option (σ⊕β)} {s:σ} {Q:β->Prop} (I:σ->Prop) (m:σ->Nat) (h0:I s) (h:∀ s,I s->Runs (step s) (Rnd I m Q s)):Runs (Gw.loop step s) Q:=by
 generalize hk:m s=k
 induction k using Nat.strongRecOn generalizing s with
 | _ k ih =>
  obtain ⟨x,hx,hq⟩:=h s h0;cases x with
  | inl s' =>
   rw [Qov hx];exact ih (m s') (by have:=hq.2;omega) hq.1 rfl
  | inr o=>rw [Qje hx];exact ⟨o,rfl,hq⟩
theorem Jb {xs:List β} {k:Nat} (h:k < xs.length):Gw.idx xs (k:Int)=.some xs[k]:=by
 simp_all [if_pos,Int.toNat_natCast,List.getElem?_eq_getElem,Gw.idx]
theorem Qln {xs ys:List β} (h:xs.length+ys.length<=1073741824):app xs ys=.some (xs++ys):=by unfold app;grind
end
end Go.Gw

end
section
set_option linter.unusedSectionVars false
namespace Go.Gw
section
variable {α β γ σ ρ:Type}
def Ji (p:α->Bool) (res:Nat->α->ρ):Nat->List α->ρ⊕Unit
 | _,[]=>.inr ()
 | k,x::xs=>if p x then .inl (res k x) else Ji p res (k+1) xs
theorem Qow {step:Int->Option (Int⊕(ρ⊕Unit))} (xs:List α) (p:α->Bool) (res:Nat->α->ρ)
  (hs:∀ k (hk:k < xs.length),step (k:Int)=(bif p xs[k] then some (.inr (.inl (res k xs[k]))) else some (.inl ((k+1:Nat):Int))))
  (he:step (xs.length:Int)=some (.inr (.inr ()))):loop step 0=some (Ji p res 0 xs):=by
 have key:∀ j k,j+k=xs.length->loop step (k:Int)=some (Ji p res k (xs.drop k)):=by
  intro j
  induction j with
  | zero =>
   intro k hk;obtain rfl:k=xs.length:=by omega
   rw [List.drop_length];exact Qje he
  | succ j ih =>
   intro k hk;have hlt:k < xs.length:=by omega
   rw [En hlt];have:=hs k hlt;cases hp:p xs[k] with
   | true=>simp_all [Qje,Ji,if_true]
   | false=>grind [Qov,Ji]
 have:=key xs.length 0 (by omega);trivial

theorem YZ (k:Nat) (h:k < 4611686018427387904):w64 ((k:Int)+1)=((k+1:Nat):Int):=by grind [XZ]
theorem Qag {k n:Nat} (h:k < n):decide ((k:Int) < (n:Int))=true:=by simp;omega
theorem Qah (n:Nat):decide ((n:Int) < (n:Int))=false:=by simp
end
end Go.Gw

end
section
set_option linter.unusedVariables false
namespace Go.Gw
open Go
def QD (s:ByteArray):List Int:=s.data.toList.map fun b=>((b.toNat:Nat):Int)
theorem YA (s:ByteArray):(QD s).length=s.size:=Zr s
theorem JQ {a b:ByteArray} (h:QD a=QD b):a=b:=by
 have h:bl a=bl b:=h;rw [<-Qjm a,<-Qjm b,h]
theorem Qem (a b:ByteArray):QD (a++b)=QD a++QD b:=Quq a b
theorem Qmf {l:List Int} (h:∀ x∈l,0<=x/\x < 256):QD (YI l)=l:=by
 have e:=Qjn (xs:=(l:List U8));show bl (YI (l:List U8))=l;rw [e];show Er (fun b:UInt8=>((b.toNat:Nat):Int)) (Er (fun n:Int=>UInt8.ofNat n.toNat) l).toArray.toList=l;rw [List.toList_toArray,List.map_map];refine (List.map_congr_left (g:=id) fun x hx=>?_).trans (List.map_id l);obtain ⟨h1,h2⟩:=h x hx;show (((UInt8.ofNat x.toNat).toNat:Nat):Int)=x;rw [UInt8.toNat_ofNat',Nat.mod_eq_of_lt (by omega)];omega
theorem Qut {s:ByteArray} {x:Int} (h:x∈QD s):0<=x/\x < 256:=by
 have h:x∈Er (fun b:UInt8=>((b.toNat:Nat):Int)) s.data.toList:=h;obtain ⟨b,_,rfl⟩:=List.mem_map.1 h;have:=b.toNat_lt;omega
def XT:Nat->Nat->List Int
 | 0,_=>[]
 | k+1,m=>XT k (m / 10)++[48+((m % 10:Nat):Int)]
theorem JS:∀ (k m:Nat),(XT k m).length=k
 | 0,_=>rfl
 | k+1,m=>by simp [XT,JS k]
theorem JR:∀ (k m:Nat),XT (k+1) m=(48+((m / 10 ^ k % 10:Nat):Int))::XT k m
 | 0,m=>by simp [XT]
 | k+1,m=>by
  have h:=JR k (m / 10);show XT (k+1) (m / 10)++[48+((m % 10:Nat):Int)]=_;rw [h,Nat.div_div_eq_div_mul,Nat.mul_comm 10,<-Ee];rfl
theorem Qbi:∀ {k m:Nat} {x:Int},x∈XT k m->48<=x/\x<=57
 | 0,_,_,h=>by cases h
 | k+1,m,x,h=>by
  rcases List.mem_append.1 h with h | h
  ·exact Qbi h
  ·simp at h;omega
def val (l:List Int):Int:=l.foldl (fun n x=>n * 10+(x - 48)) 0
theorem Qgu (l:List Int) (x:Int):val (l++[x])=val l * 10+(x - 48):=by simp [val,List.foldl_append]
theorem Qmo:∀ (k m:Nat),m < 10 ^ k->val (XT k m)=m
 | 0,m,h=>by simp at h;subst h;rfl
 | k+1,m,h=>by
  rw [XT,Qgu,Qmo k (m / 10) (by rw [Ee] at h;omega)];omega
theorem Qgt:∀ (k:Nat) (l:List Int),l.length=k->(∀ x∈l,48<=x/\x<=57)->0<=val l/\val l < ((10 ^ k:Nat):Int)
 | 0,l,h,_=>by
  have:l=[]:=Ed h;subst this;simp [val]
 | k+1,l,h,hd=>by
  obtain ⟨a,x,rfl⟩:∃ a x,l=a++[x]:=⟨l.dropLast,l.getLast (by intro e;subst e;cases h),(Ej _).symm⟩;have h1:=Qgt k a (by simpa using h) fun y hy=>hd y (Eh _ hy)
  have h2:=hd x (by simp);rw [Qgu,Ee];omega
theorem Qmn:∀ (k:Nat) (l:List Int),l.length=k->(∀ x∈l,48<=x/\x<=57)->XT k (val l).toNat=l
 | 0,l,h,_=>(Ed h).symm
 | k+1,l,h,hd=>by
  obtain ⟨a,x,rfl⟩:∃ a x,l=a++[x]:=⟨l.dropLast,l.getLast (by intro e;subst e;cases h),(Ej _).symm⟩;have ha:a.length=k:=by simpa using h
  have h1:=Qgt k a ha fun y hy=>hd y (Eh _ hy)
  have h2:=hd x (by simp);have h3:=Qmn k a ha fun y hy=>hd y (Eh _ hy)
  rw [Qgu,XT];have e1:(val a * 10+(x - 48)).toNat / 10=(val a).toNat:=by omega
  have e2:(((val a * 10+(x - 48)).toNat % 10:Nat):Int)=x - 48:=by omega
  rw [e1,h3,e2];congr 2;omega
def nd (m:Nat):Nat:=if m < 10 then 1 else nd (m / 10)+1
theorem Qak (m:Nat):1<=nd m/\m < 10 ^ nd m/\(nd m=1\/10 ^ (nd m - 1)<=m):=by
 induction m using Nat.strongRecOn with
 | _ m ih =>
  rw [nd];by_cases h:m < 10
  ·rw [if_pos h];exact ⟨Eq_ _,by simpa using h,.inl rfl⟩
  ·rw [if_neg h];obtain ⟨h1,h2,h3⟩:=ih (m / 10) (by omega);refine ⟨by omega,by rw [Ee];omega,.inr ?_⟩;rw [Ef];rcases h3 with h3 | h3
   ·rw [h3];omega
   ·obtain ⟨j,hj⟩:∃ j,nd (m / 10)=j+1:=⟨nd (m / 10) - 1,by omega⟩;rw [hj] at h3 ⊢;rw [Ef] at h3;rw [Ee];omega
theorem Qal {m k:Nat} (h1:1<=k) (h2:m < 10 ^ k) (h3:k=1\/10 ^ (k - 1)<=m):nd m=k:=by
 obtain ⟨g1,g2,g3⟩:=Qak m;rcases Nat.lt_trichotomy (nd m) k with h | h | h
 ·exfalso;rcases h3 with h3 | h3
  ·omega
  ·have:=Ei (show 0 < 10 by decide) (show nd m<=k - 1 by omega);omega
 ·exact h
 ·exfalso;rcases g3 with g3 | g3
  ·omega
  ·have:=Ei (show 0 < 10 by decide) (show k<=nd m - 1 by omega);omega
def Ya (m:Nat):List Int:=XT (nd m) m
def Xw (n:Int):List Int:=if n < 0 then 45::Ya n.natAbs else Ya n.natAbs
def YL (n:Int):ByteArray:=YI (Xw n)
theorem Qmm {n x:Int} (h:x∈Xw n):x=45\/48<=x/\x<=57:=by
 unfold Xw at h;split at h
 ·rcases Et.1 h with h | h
  ·exact .inl h
  ·exact .inr (Qbi h)
 ·exact .inr (Qbi h)
theorem Qbh (n:Int):QD (YL n)=Xw n:=Qmf fun x hx=>by have:=Qmm hx;omega
theorem Qfu {m k:Nat} (h1:1<=k) (h:m < 10 ^ k):nd m<=k:=by
 obtain ⟨g1,g2,g3⟩:=Qak m;rcases Nat.lt_or_ge k (nd m) with h2 | h2
 ·exfalso;rcases g3 with g3 | g3
  ·omega
  ·have:=Ei (show 0 < 10 by decide) (show k<=nd m - 1 by omega);omega
 ·exact h2
theorem Qvk {n:Int} (h:-9223372036854775808<=n/\n<=9223372036854775807):(YL n).size<=20:=by
 rw [<-YA,Qbh];have h1:nd n.natAbs<=19:=Qfu (by decide) (by omega);unfold Xw Ya;split
 ·simp [JS];omega
 ·simp [JS];omega
theorem Qac (m:Nat):val (Ya m)=m:=Qmo _ _ (Qak m).2.1
theorem Qab (m:Nat):∃ x l,Ya m=x::l/\48<=x/\x<=57/\(l≠[]->x≠48):=by
 obtain ⟨g1,g2,g3⟩:=Qak m;obtain ⟨j,hj⟩:∃ j,nd m=j+1:=⟨nd m - 1,by omega⟩;refine ⟨_,_,by unfold Ya;rw [hj];exact JR j m,by omega,by omega,fun hl=>?_⟩;rw [hj] at g2 g3;rcases g3 with g3 | g3
 ·have:j=0:=by omega
  subst this;exact absurd rfl hl
 ·rw [Ef] at g3;rw [Ee] at g2;have h1:1<=m / 10 ^ j:=(Nat.le_div_iff_mul_le (Nat.pow_pos (by decide))).2 (by omega);have h2:m / 10 ^ j < 10:=Nat.div_lt_of_lt_mul (by omega);omega
theorem Qvh {a b:Int} (h:Xw a=Xw b):a=b:=by
 obtain ⟨x,l,hx,h1,h2,_⟩:=Qab a.natAbs;obtain ⟨y,k,hy,h3,h4,_⟩:=Qab b.natAbs;unfold Xw at h;split at h<;>split at h
 ·have:=congrArg val (Eu.inj h).2;rw [Qac,Qac] at this;omega
 ·rw [hy] at h;have:=(Eu.inj h).1;omega
 ·rw [hx] at h;have:=(Eu.inj h).1;omega
 ·have:=congrArg val h;rw [Qac,Qac] at this;omega
theorem Qvi {x:Int} {l:List Int} (h:∀ y∈x::l,48<=y/\y<=57) (h0:l≠[]->x≠48):Ya (val (x::l)).toNat=x::l:=by
  have hb:=Qgt _ (x::l) rfl h;have hd:=Qmn _ (x::l) rfl h;have hn:nd (val (x::l)).toNat=(x::l).length:=by
    refine Qal (by simp) (by omega) ?_;by_cases hl:l=[]
    · subst hl;exact .inl rfl
    · refine .inr ?_;have hx:=h x (El ..);have hx0:=h0 hl;rw [List.length_cons,Ef];have h2:((val (x::l)).toNat / 10 ^ l.length % 10:Nat)=(x - 48).toNat:=by
        have h3:XT (l.length+1) (val (x::l)).toNat=x::l:=hd;rw [JR] at h3;have:=(Eu.inj h3).1;omega
      rcases Nat.lt_or_ge (val (x::l)).toNat (10 ^ l.length) with h3 | h3
      · rw [Nat.div_eq_of_lt h3] at h2;omega
      · exact h3
  unfold Ya;rw [hn];exact hd
end Go.Gw

end
section
set_option linter.unusedSectionVars false
namespace Go.Gw
open Go
theorem bnd {α β:Type} {e:Option α} {f:α->Option β} {r:β} {G:Prop} (h:e.bind f=some r) (k:∀ x,e=some x->f x=some r->G):G :=
 have ⟨x,a,b⟩:=Qf h
 k x a b
abbrev Sno:Value:=.slice none 0 0
abbrev Frs (w:World) (v:Value):Prop:=∀ b,Qs v=some b->w.heap.size<=b
section
variable {P:Program} [JD P] {n:Nat} {q:Post} {ρ:Env} {w:World} {T:TypeId}
theorem X5 {α:Type} {u v z:α} {c:Operand} {x y:Code} {b:Bool} (h:cond b u v=z) (hc:Qo n ρ c=.bool b) (ht:b=true->u=z->WC P n x q ρ w) (hf:b=false->v=z->WC P n y q ρ w):WC P n (.cond c x y) q ρ w :=
 Qy hc (fun e=>ht e (Qr e h)) (fun e=>hf e (QA e h))
end
end Go.Gw

end
section
set_option linter.unusedSectionVars false
namespace Go.Gw
open Go
section
variable {P:Program} [JD P] {n:Nat} {q:Post} {ρ:Env} {w:World}

def TX (P:Program) [JD P] (n:Nat) (ops:List Oper) (K:Env->World->Prop):Pl->Env->World->Prop
  | .done,ρ,w=>K ρ w
  | .p i r,ρ,w=>∃ o v,ops[i]?=some o/\Quiet P n ops.toArray (fun _=>True) o ρ v/\TX P n ops K r (Xk ρ o.dst v) w
  | .q i r,ρ,w=>∃ o v,ops[i]?=some o/\Quiet P n ops.toArray (Ext w) o ρ v/\TX P n ops K r (Xk ρ o.dst v) w
  | .e i r,ρ,w=>∃ o,ops[i]?=some o/\Stp P n ops.toArray o ρ w (fun ρ' w'=>Ext w w'/\TX P n ops K r ρ' w')
  | .b i r,ρ,w=>∃ o,ops[i]?=some o/\Stp P n ops.toArray o ρ w (fun ρ' w'=>TX P n ops K r ρ' w')
  | .f i r j s, ρ, w => (∃ o, ops[i]? = some o /\ Stp P n ops.toArray o ρ w (fun ρ' w' => Ext w w' /\ TX P n ops K r ρ' w')) /\
      (∃ o,ops[j]?=some o/\Stp P n ops.toArray o ρ w (fun ρ' w'=>Ext w w'/\TX P n ops K s ρ' w'))

def anyX (P:Program) [JD P] (ops:Array Oper) (Q:Exit->Act->World->Prop) (bs:List Nat) (Kt:Array Bool->Act->World->Prop):Nat->(World->Prop)->Array Bool->Act->World->Prop
 | 0,_,listed,a,w=>Kt listed a w
 | fuel+1,S,listed,a,w=>Region.ready .any ops listed≠[]/\∀ i∈Region.ready .any ops listed,YY (JD.j (P:=P)) ops i (fun a' w'=>∃ S':World->Prop,(bs.contains i=false->S w->S' w'/\∀ x,S' x->S x)/\anyX P ops Q bs Kt fuel S' (listed.setIfInBounds i true) a' w') a w

theorem anyX.toAny {ops:Array Oper} {Q:Exit->Act->World->Prop} {bs:List Nat} {Kt:Array Bool->Act->World->Prop} (ht:∀ listed a w,Kt listed a w->J8 (JD.j (P:=P)) ops Q 0 listed a w) :
  ∀ (fuel:Nat) (S:World->Prop) (listed:Array Bool) (a:Act) (w:World),anyX P ops Q bs Kt fuel S listed a w->J8 (JD.j (P:=P)) ops Q fuel listed a w
 | 0,_,listed,a,w,h=>ht _ _ _ h
 | fuel+1,S,listed,a,w,h=>⟨fun h0=>absurd h0 h.1,fun i hi=>Qfx (fun a' w' ⟨S',_,h'⟩=>anyX.toAny ht fuel S' _ a' w' h') (h.2 i hi)⟩

theorem Qlm {ops:Array Oper} {Q:Exit->Act->World->Prop} {bs:List Nat} {Si:World->Prop} {Kt:Array Bool->Act->World->Prop} {i:Nat} {oi:Oper} {v:Value} (hi:ops[i]?=some oi)
    (hb:(∀ b∈bs,Qaj ops ops.size b i=true)\/∀ w,Si w)
    (hsel:∀ (j:Nat) (o:Oper) cs b,ops[j]?=some o->o.op≠.select cs b) :
    ∀ (fuel:Nat) (S:World->Prop) (listed:Array Bool) (a:Act) (w:World),listed.size=ops.size->Closed ops listed->fuel+1=ZQ listed ops.size ->
      (∀ j oj,ops[j]?=some oj->j≠i->listed.getD j true=false->(∀ e∈oj.after,Region.binds .any e=true->e.on≠i)->oi.apart ops oj=true) ->
      i∈Region.ready .any ops listed->YldJ P ops Si oi v a->Si w->((S w/\∀ x,S x->Si x)\/∀ w,Si w) ->
      anyX P ops Q bs Kt fuel S (listed.setIfInBounds i true) (a.put oi.dst v) w->anyX P ops Q bs Kt (fuel+1) S listed a w:=by
  have hlt:∀ {j:Nat} {listed:Array Bool},j∈Region.ready .any ops listed->j < ops.size:=fun hj=>by
    grind [Ea,mem_ready]
  have him:=(Ea.1 hi).1;intro fuel
  induction fuel with
  | zero =>
    intro S listed a w hls hcl hcnt _ hr hy hSw hD H;have hiu:=(mem_ready.1 hr).1;refine ⟨fun h=>(by simp_all),fun j hj=>?_⟩;by_cases hji:j=i
    · subst hji;exact hy.op hi hSw ⟨S,fun _ h=>⟨h,fun _ h=>h⟩,H⟩
    grind [Qso,mem_ready]
  | succ fuel ih =>
    intro S listed a w hls hcl hcnt hfree hr hy hSw hD H;have hiu:=(mem_ready.1 hr).1;refine ⟨fun h=>(by simp_all),fun j hj=>?_⟩;by_cases hji:j=i
    · subst hji;exact hy.op hi hSw ⟨S,fun _ h=>⟨h,fun _ h=>h⟩,H⟩
    · have h1:=H.2 j (ready_mono hj hji);obtain ⟨hjun,oj,hoj,hall⟩:=mem_ready.1 hj;have hnot:∀ e∈oj.after,Region.binds .any e=true->e.on≠i:=fun e he hb heq=>by
        grind
      have h2:=Qpy hoj (hfree j oj hoj hji hjun hnot) (fun cs b=>hsel i oi cs b hi) (fun cs b=>hsel j oj cs b hoj) hy h1
      have hfree' : ∀ k ok, ops[k]? = some ok -> k ≠ i -> (listed.setIfInBounds j true).getD k true = false ->
          (∀ e∈ok.after,Region.binds .any e=true->e.on≠i)->oi.apart ops ok=true:=fun k ok hk hki hun hno=>hfree k ok hk hki (QIx hun).1 hno
      have hbj:bs.contains j=false\/∀ w,Si w:=by
        rcases hb with hb | hb
        · left;cases hc:bs.contains j with
          | false=>rfl
          | true =>
            exfalso;have hm:=Qjg hcl _ _ _ _ hoj hall (hb j (by grind));simp_all
        simp_all
      refine Qfx (fun a' w' h3=>?_) h2;obtain ⟨hy',S',hk',h4⟩:=h3;refine ⟨S',hk',?_⟩;have hD':(S' w'/\∀ x,S' x->Si x)\/∀ w,Si w:=by
        grind
      have hSw':Si w':=by
        grind
      refine ih S' (listed.setIfInBounds j true) a' w' (by grind) (hcl.set hj) (by grind [J3]) hfree' (ready_mono hr (Ne.symm hji)) hy' hSw' hD' ?_
      grind [Array.setIfInBounds_comm]

section
variable {K:Env->World->Prop} {ops:List Oper} {o:Oper} {i:Nat} {r:Pl} {v:Value}
end
end
end Go.Gw

end
section
set_option linter.unusedSectionVars false
namespace Go.Gw
open Go
section
variable {P:Program} [JD P] {n:Nat} {q:Post} {ρ:Env} {w:World}

inductive Px where
 | done
 | p (i:Nat) (r:Px)
 | q (i:Nat) (r:Px)
 | m (s:Px)
 | a (i:Nat) (r s:Px)
 | c (i:Nat) (r s:Px)
 | z
def Px.hasQ:Px->Bool
 | .done=>false
 | .p _ r=>r.hasQ
 | .q _ _=>true
 | .m s=>s.hasQ
 | .a _ r s=>r.hasQ||s.hasQ
 | .c _ r s=>r.hasQ||s.hasQ
 | .z=>false
def Px.len:Px->Nat
 | .done=>0
 | .p _ r=>r.len+1
 | .q _ r=>r.len+1
 | .m s=>s.len
 | .a _ r _=>r.len+1
 | .c _ r _=>r.len+1
 | .z=>0
def Px.brk:Px->List Nat
 | .done=>[]
 | .p _ r=>r.brk
 | .q _ r=>r.brk
 | .m s=>s.brk
 | .a _ r s=>r.brk++s.brk
 | .c i r s=>i::(r.brk++s.brk)
 | .z=>[]
def Px.heads:Px->List Nat
 | .a i _ s=>i::s.heads
 | .c i _ s=>i::s.heads
 | _=>[]
def Px.inChain:Px->Bool
 | .a _ _ _=>true
 | .c _ _ _=>true
 | .z=>true
 | _=>false
def Px.chain (k:Nat):Px->Bool
 | .a _ r s=>Nat.beq (r.len+1) k&&(!r.inChain&&s.chain k)
 | .c _ r s=>Nat.beq (r.len+1) k&&(!r.inChain&&s.chain k)
 | .z=>true
 | _=>false
def TZ (P:Program) [JD P] (n:Nat) (ops:List Oper) (K:Env->World->Prop):Px->Env->World->Prop
 | .done,ρ,w=>K ρ w
 | .p i r,ρ,w=>∃ o v,ops[i]?=some o/\Quiet P n ops.toArray (fun _=>True) o ρ v/\TZ P n ops K r (Xk ρ o.dst v) w
 | .q i r,ρ,w=>∃ o v,ops[i]?=some o/\Quiet P n ops.toArray (Ext w) o ρ v/\TZ P n ops K r (Xk ρ o.dst v) w
 | .m s,ρ,w=>TZ P n ops K s ρ w
 | .a i r s,ρ,w=>(∃ o,ops[i]?=some o/\Stp P n ops.toArray o ρ w (fun ρ' w'=>Ext w w'/\TZ P n ops K r ρ' w'))/\TZ P n ops K s ρ w
 | .c i r s,ρ,w=>(∃ o,ops[i]?=some o/\Stp P n ops.toArray o ρ w (fun ρ' w'=>TZ P n ops K r ρ' w'))/\TZ P n ops K s ρ w
 | .z,_,_=>True
def Zd (ops:Array Oper) (bs:List Nat):Px->Array Bool->Bool
 | .done,listed=>(Region.ready .any ops listed).isEmpty
 | .p i r,listed=>!r.inChain&&Region.free .any ops listed i&&(Region.ready .any ops listed).contains i&&Zd ops bs r (listed.setIfInBounds i true)
 | .q i r,listed=>!r.inChain&&(bs.all fun b=>Qaj ops ops.size b i)&&Region.free .any ops listed i&&(Region.ready .any ops listed).contains i&&Zd ops bs r (listed.setIfInBounds i true)
 | .m s,listed=>Region.ready .any ops listed == s.heads&&(!s.heads.isEmpty&&(s.chain s.len&&Zd ops bs s listed))
 | .a i r s,listed=>!bs.contains i&&(Zd ops bs r (listed.setIfInBounds i true)&&Zd ops bs s listed)
 | .c i r s,listed=>bs.contains i&&(!r.hasQ&&(Zd ops bs r (listed.setIfInBounds i true)&&Zd ops bs s listed))
 | .z,_=>true
def Qqg (ops:Array Oper) (p:Px):Bool:=Region.noSelect ops&&(Nat.beq p.len ops.size&&Zd ops p.brk p (Array.replicate ops.size false))
def BrX (P:Program) [JD P] (n:Nat) (q:Post) (ops:List Oper) (bs:List Nat) (k:Nat) (listed:Array Bool) (ρ:Env) (w:World) (i:Nat):Prop :=
 YY (JD.j (P:=P)) ops.toArray i (fun a' w'=>∃ S':World->Prop,(bs.contains i=false->Ext w w->S' w'/\∀ x,S' x->Ext w x)/\anyX P ops.toArray (q.Q n) bs (fun listed a w=>J8 (JD.j (P:=P)) ops.toArray (q.Q n) 0 listed a w) k S' (listed.setIfInBounds i true) a' w') (act n ρ) w
theorem TZ.toX {ops:List Oper} {bs:List Nat} {K:Env->World->Prop} (hsel:Region.noSelect ops.toArray=true) (hK:∀ ρ w,K ρ w->q.norm ρ w) :
  ∀ (p:Px) (listed:Array Bool) (ρ:Env) (w:World),listed.size=ops.toArray.size->Closed ops.toArray listed->Zd ops.toArray bs p listed=true->TZ P n ops K p ρ w ->
   (p.inChain=false->ZQ listed ops.toArray.size=p.len->anyX P ops.toArray (q.Q n) bs (fun listed a w=>J8 (JD.j (P:=P)) ops.toArray (q.Q n) 0 listed a w) p.len (Ext w) listed (act n ρ) w) /\
   (∀ k,p.chain (k+1)=true->ZQ listed ops.toArray.size=k+1->(∀ i∈p.heads,i∈Region.ready .any ops.toArray listed)->∀ i∈p.heads,BrX P n q ops bs k listed ρ w i)
 | .done,listed,ρ,w,_,_,hok,h=>⟨fun _ _=>⟨by grind [Zd],ρ,rfl,hK _ _ h⟩,fun k hc=>by cases hc⟩
 | .p i r,listed,ρ,w,hls,hcl,hok,h=>⟨fun _ hc=>by
  simp only [Zd,Eb,Ec] at hok;obtain ⟨⟨⟨hnc,hf⟩,hr⟩,hrest⟩:=hok;obtain ⟨o,v,hi',hq,ht⟩:=h;have hi:ops.toArray[i]?=some o:=by grind
  have him:=(Ea.1 hi).1;have hr:i∈Region.ready .any ops.toArray listed:=by grind
  have hc':=J3 (listed:=listed) him (by grind [mem_ready]);simp only [Px.len] at hc;refine Qlm (Si:=fun _=>True) hi (.inr fun _=>trivial) (Region.noSelect_spec hsel) r.len _ listed _ w hls hcl hc.symm (Region.free_spec hi hf) hr hq.yields trivial (.inr fun _=>trivial) ?_;rw [Z5];exact (TZ.toX hsel hK r _ _ w (by grind) (hcl.set hr) hrest ht).1 hnc (by omega),fun k hc=>by cases hc⟩
 | .q i r,listed,ρ,w,hls,hcl,hok,h=>⟨fun _ hc=>by
  simp only [Zd,Eb,List.all_eq_true,Ec] at hok;obtain ⟨⟨⟨⟨hnc,hm⟩,hf⟩,hr⟩,hrest⟩:=hok;obtain ⟨o,v,hi',hq,ht⟩:=h;have hi:ops.toArray[i]?=some o:=by grind
  have him:=(Ea.1 hi).1;have hr:i∈Region.ready .any ops.toArray listed:=by grind
  have hc':=J3 (listed:=listed) him (by grind [mem_ready]);simp only [Px.len] at hc;refine Qlm (Si:=Ext w) hi (.inl hm) (Region.noSelect_spec hsel) r.len (Ext w) listed _ w hls hcl hc.symm (Region.free_spec hi hf) hr hq.yields (Chg.refl _ _) (.inl ⟨Chg.refl _ _,fun _ h=>h⟩) ?_;rw [Z5];exact (TZ.toX hsel hK r _ _ w (by grind) (hcl.set hr) hrest ht).1 hnc (by omega),fun k hc=>by cases hc⟩
 | .m s,listed,ρ,w,hls,hcl,hok,h=>⟨fun _ hc=>by
  simp only [Zd,Eb,beq_iff_eq,Ec] at hok;obtain ⟨hr,hne,hch,hok⟩:=hok;have hh:=(TZ.toX hsel hK s listed ρ w hls hcl hok h).2;simp only [Px.len] at hc ⊢;cases hl:s.len with
  | zero =>
   exfalso;cases s with
   | a i r s=>trivial
   | c i r s=>trivial
   | _=>trivial
  | succ k =>
   rw [hl] at hch hc;refine ⟨fun e=>by simp_all,fun i hi=>?_⟩;exact hh k hch hc (fun i hi=>by simp_all) i (by simp_all),fun k hc=>by cases hc⟩
 | .a i r s,listed,ρ,w,hls,hcl,hok,h=>⟨fun hc=>(by cases hc),fun k hc hu hrd j hj=>by
  simp only [Zd,Eb,Ec] at hok;obtain ⟨hnb,hokr,hoks⟩:=hok;simp only [Px.chain,Eb,Ec,Nat.beq_eq] at hc;obtain ⟨hl,hnc,hcs⟩:=hc;obtain ⟨⟨o,hi',hs⟩,h2⟩:=h;rcases Et.1 hj with rfl | hj
  ·have hi:ops.toArray[j]?=some o:=by grind
   have hr':=hrd j (El ..);have hc':=J3 (listed:=listed) (Ea.1 hi).1 (by grind [mem_ready]);refine hs.toOp hi fun ρ w' h'=>⟨Ext w',fun _ _=>⟨Chg.refl _ _,fun _ hx=>Chg.trans h'.1 hx⟩,?_⟩;have:=(TZ.toX hsel hK r _ ρ w' (by grind) (hcl.set hr') hokr h'.2).1 hnc (by omega);simp_all
  ·exact (TZ.toX hsel hK s listed ρ w hls hcl hoks h2).2 k hcs hu (fun i hi=>hrd i (Es _ hi)) j hj⟩
 | .c i r s,listed,ρ,w,hls,hcl,hok,h=>⟨fun hc=>(by cases hc),fun k hc hu hrd j hj=>by
  simp only [Zd,Eb,Ec] at hok;obtain ⟨hib,hnq,hokr,hoks⟩:=hok;simp only [Px.chain,Eb,Ec,Nat.beq_eq] at hc;obtain ⟨hl,hnc,hcs⟩:=hc;obtain ⟨⟨o,hi',hs⟩,h2⟩:=h;rcases Et.1 hj with rfl | hj
  ·have hi:ops.toArray[j]?=some o:=by grind
   have hr':=hrd j (El ..);have hc':=J3 (listed:=listed) (Ea.1 hi).1 (by grind [mem_ready]);refine hs.toOp hi fun ρ w' h'=>⟨Ext w',fun hb=>(by simp_all),?_⟩;have:=(TZ.toX hsel hK r _ ρ w' (by grind) (hcl.set hr') hokr h').1 hnc (by omega);simp_all
  ·exact (TZ.toX hsel hK s listed ρ w hls hcl hoks h2).2 k hcs hu (fun i hi=>hrd i (Es _ hi)) j hj⟩
 | .z,listed,ρ,w,_,_,_,_=>⟨fun hc=>(by cases hc),fun _ _ _ _ i hi=>(by cases hi)⟩

theorem XO {id:Nat} {ops:List Oper} (hm:P.follows .mixedOrders=true) (p:Px) (hok:Qqg ops.toArray p=true) (hnc:p.inChain=false) (h:∀ w1,Ext w w1->TZ P n ops q.norm p ρ w1):WC P n (.region id ops.toArray true) q ρ w:=by
 simp only [Qqg,Eb] at hok;obtain ⟨hsel,hl,hp⟩:=hok;have hl:p.len=ops.toArray.size:=by simp_all
 refine QJl hm ?_;have h1:=(TZ.toX (q:=q) hsel (fun _ _ h=>h) p (Array.replicate ops.toArray.size false) ρ { w with drawn:=w.drawn+1 } (by simp) (Closed.none _ _) hp (h _ (Ext.drew w))).1 hnc (by rw [Qsn _ _ (Eq_ _),hl])
 grind [anyX.toAny]

section
variable {K:Env->World->Prop} {ops:List Oper} {o:Oper} {i:Nat} {r s:Px} {v:Value}
theorem Xt (h:K ρ w):TZ P n ops K .done ρ w:=h
theorem Qk (hi:ops[i]?=some o) (hw:XP ops.toArray o n ρ=true) (hy:∀ w',Yl P n ρ o w' v) (h:TZ P n ops K r (Xk ρ o.dst v) w):TZ P n ops K (.p i r) ρ w :=
 ⟨o,v,hi,.inl ⟨hw,fun w' _=>hy w'⟩,h⟩
theorem Xg (hi:ops[i]?=some o) (hw:XP ops.toArray o n ρ=true) (hy:∀ w',Ext w w'->Yl P n ρ o w' v) (h:TZ P n ops K r (Xk ρ o.dst v) w):TZ P n ops K (.q i r) ρ w :=
 ⟨o,v,hi,.inl ⟨hw,hy⟩,h⟩
theorem X1 (b:Bool) (hi:ops[i]?=some o) (hw:XP ops.toArray o n ρ=b) (hy:∀ w',b=true->Yl P n ρ o w' v) (h:TZ P n ops K r (Xk ρ o.dst (gd b v)) w):TZ P n ops K (.p i r) ρ w:=by
 cases b with
 | true=>grind [Qk,Qi]
 | false=>rw [Qbn rfl] at h;exact ⟨o,undef,hi,.inr ⟨hw,rfl⟩,h⟩
theorem Zq (b:Bool) (hi:ops[i]?=some o) (hw:XP ops.toArray o n ρ=b) (hy:∀ w',Ext w w'->b=true->Yl P n ρ o w' v) (h:TZ P n ops K r (Xk ρ o.dst (gd b v)) w):TZ P n ops K (.q i r) ρ w:=by
 cases b with
 | true=>grind [Xg,Qi]
 | false=>rw [Qbn rfl] at h;exact ⟨o,undef,hi,.inr ⟨hw,rfl⟩,h⟩
theorem JM (h:TZ P n ops K s ρ w):TZ P n ops K (.m s) ρ w:=h
theorem Qce (h:∃ o,ops[i]?=some o/\Stp P n ops.toArray o ρ w (fun ρ' w'=>Ext w w'/\TZ P n ops K r ρ' w')) (h2:TZ P n ops K s ρ w):TZ P n ops K (.a i r s) ρ w:=⟨h,h2⟩
theorem Qhd (h:∃ o,ops[i]?=some o/\Stp P n ops.toArray o ρ w (fun ρ' w'=>TZ P n ops K r ρ' w')) (h2:TZ P n ops K s ρ w):TZ P n ops K (.c i r s) ρ w:=⟨h,h2⟩
theorem JK (h:∃ o,ops[i]?=some o/\Stp P n ops.toArray o ρ w (fun ρ' w'=>Ext w w'/\TZ P n ops K r ρ' w')):TZ P n ops K (.a i r .z) ρ w:=⟨h,trivial⟩
theorem QX (h:∃ o,ops[i]?=some o/\Stp P n ops.toArray o ρ w (fun ρ' w'=>Ext w w'/\TZ P n ops K r ρ' w')):TZ P n ops K (.m (.a i r .z)) ρ w:=⟨h,trivial⟩
theorem XX (h:∃ o,ops[i]?=some o/\Stp P n ops.toArray o ρ w (fun ρ' w'=>TZ P n ops K r ρ' w')):TZ P n ops K (.m (.c i r .z)) ρ w:=⟨h,trivial⟩
theorem QV (hi:ops[i]?=some o) (hw:XP ops.toArray o n ρ=true) (h:Eff P o n ρ w (fun v w'=>Ext w w'/\TZ P n ops K r (Xk ρ o.dst v) w')):∃ o,ops[i]?=some o/\Stp P n ops.toArray o ρ w (fun ρ' w'=>Ext w w'/\TZ P n ops K r ρ' w') :=
 ⟨o,hi,by simp_all [if_pos,Stp]⟩
theorem XN (hi:ops[i]?=some o) (hw:XP ops.toArray o n ρ=true) (h:Eff P o n ρ w (fun v w'=>TZ P n ops K r (Xk ρ o.dst v) w')):∃ o,ops[i]?=some o/\Stp P n ops.toArray o ρ w (fun ρ' w'=>TZ P n ops K r ρ' w') :=
 ⟨o,hi,by simp_all [if_pos,Stp]⟩
theorem Qhf (hi:ops[i]?=some o) (hw:XP ops.toArray o n ρ=true) (hy:Yl P n ρ o w v) (h:TZ P n ops K r (Xk ρ o.dst v) w):∃ o,ops[i]?=some o/\Stp P n ops.toArray o ρ w (fun ρ' w'=>Ext w w'/\TZ P n ops K r ρ' w') :=
 QV hi hw ⟨hy.1,.inl ⟨v,hy.2,Chg.refl _ _,h⟩⟩
theorem JL (b:Bool) (V:Value) (hi:ops[i]?=some o) (hw:XP ops.toArray o n ρ=b) (ht:b=true->Eff P o n ρ w (fun v w'=>v=V/\Ext w w')) (h:∀ w',Ext w w'->Ext w w'/\TZ P n ops K r (Xk ρ o.dst (gd b V)) w') :
  ∃ o,ops[i]?=some o/\Stp P n ops.toArray o ρ w (fun ρ' w'=>Ext w w'/\TZ P n ops K r ρ' w'):=by
 refine ⟨o,hi,?_⟩;unfold Stp;cases b with
 | true =>
  rw [if_pos hw];refine (ht rfl).mono fun v w' ⟨hv,he⟩=>?_
  grind [Qi]
 | false =>
  simp_all [Qbn,Chg.refl,if_neg]
theorem Qti (Φ:Value->World->Prop) (b:Bool) (hi:ops[i]?=some o) (hw:XP ops.toArray o n ρ=b) (ht:b=true->Eff P o n ρ w (fun v w'=>Ext w w'/\Φ v w'))
  (h:∀ v w',Ext w w'->(b=true->Φ v w')->Ext w w'/\TZ P n ops K r (Xk ρ o.dst (gd b v)) w'):∃ o,ops[i]?=some o/\Stp P n ops.toArray o ρ w (fun ρ' w'=>Ext w w'/\TZ P n ops K r ρ' w'):=by
 refine ⟨o,hi,?_⟩;unfold Stp;cases b with
 | true =>
  rw [if_pos hw];refine (ht rfl).mono fun v w' ⟨he,hv⟩=>?_
  grind [Qi]
 | false =>
  simp_all [Qbn,undef,Chg.refl,if_neg]
end
end
end Go.Gw

end
section
set_option linter.unusedSectionVars false
namespace Go.Gw
open Go
section
variable {P:Program} [JD P] {n:Nat} {q:Post} {ρ:Env} {w:World} {d:Option Nat} {t T:TypeId} {p:String} {af:Array Edge} {gu:Option (Nat×Bool)} {x:Operand} {v:Value} {b:Bool}
section
variable {ops:Array Oper} {K:Env->World->Prop} {os:List Oper} {o:Oper} {e:Op}
theorem QI (hy:Yl P n ρ ⟨d,e,t,p,af,none⟩ w v) (h:T0 P n ops K os (Xk ρ d v) w):T0 P n ops K (⟨d,e,t,p,af,none⟩::os) ρ w:=Qa v hy h
theorem QO (hx:Qo n ρ x=v) (h:T0 P n ops K os (Xk ρ d v) w):T0 P n ops K (⟨d,.move x,t,p,af,none⟩::os) ρ w:=Qc v hx h
theorem Xv (hx:Qo n ρ x=v) (h:T0 P n ops K os (Xk ρ d v) w):T0 P n ops K (⟨d,.assign x,t,p,af,none⟩::os) ρ w:=Qe v hx h
theorem XA {id:Nat} {c:Code} (hx:Qo n ρ x=v) (h:WC P n c q (Xk ρ d v) w):WC P n (.seq (.region id #[⟨d,.assign x,t,p,af,none⟩] false) c) q ρ w:=QK v hx h
theorem Qea {id:Nat} {c:Code} (hx:Qo n ρ x=v) (h:WC P n c q (Xk ρ d v) w):WC P n (.seq (.region id #[⟨d,.move x,t,p,af,none⟩] false) c) q ρ w:=J7 v hx h
theorem X0 (hw:XP ops o n ρ=b) (hy:b=true->Yl P n ρ o w v) (h:T0 P n ops K os (Xk ρ o.dst (gd b v)) w):T0 P n ops K (o::os) ρ w:=Qq b hw hy h
theorem Z3 {j d:Nat} (h:(o.guard,(ops[j]?).bind (·.dst),Nat.blt d n,ρ d)=(some (j,true),some d,true,.bool b)):XP ops o n ρ=b:=by
 simp only [Prod.mk.injEq] at h;exact QC h.1 h.2.1 h.2.2.1 h.2.2.2
theorem wf4 {j d:Nat} (h:(o.guard,(ops[j]?).bind (·.dst),Nat.blt d n,ρ d)=(some (j,false),some d,true,.bool b)):XP ops o n ρ=!b:=by
 simp only [Prod.mk.injEq] at h;exact Q0 h.1 h.2.1 h.2.2.1 h.2.2.2
end
section
variable {K:Env->World->Prop} {ops:List Oper} {o:Oper} {i:Nat} {r:Px}
theorem Qhe (hi:(ops[i]?,XP ops.toArray o n ρ)=(some o,true)) (hy:∀ w',Yl P n ρ o w' v) (h:TZ P n ops K r (Xk ρ o.dst v) w):TZ P n ops K (.p i r) ρ w:=Qk (congrArg (·.1) hi) (congrArg (·.2) hi) hy h
theorem Qlg (hi:(ops[i]?,XP ops.toArray o n ρ)=(some o,true)) (hy:∀ w',Ext w w'->Yl P n ρ o w' v) (h:TZ P n ops K r (Xk ρ o.dst v) w):TZ P n ops K (.q i r) ρ w:=Xg (congrArg (·.1) hi) (congrArg (·.2) hi) hy h
end
end
end Go.Gw

end
section
namespace Go.Gw
open Go
section
variable {P:Program} [JD P] {n:Nat} {ρ:Env} {w:World}
variable {d:Option Nat} {t T:TypeId} {p:String} {af:Array Edge} {gu:Option (Nat×Bool)} {x y:Operand}
end
end Go.Gw

end
section
namespace Go.Gw
open Go
structure RwB where
 b:Nat
 pre:List Value
 post:List Value
 T:TypeId
 cap:Nat
def YK (xs:List U8):List Value:=(Zo xs).map (Value.int .u8)
theorem J2 (xs:List U8):(YK xs).length=xs.length:=@List.length_map _ _ (Zo xs) (Value.int .u8)
theorem Qsm {xs:List U8} {k:Nat} {el:U8} (h:xs[k]?=some el):(YK xs)[k]?=some (.int .u8 el):=by
 have h2:(Zo xs)[k]?=some el:=h;unfold YK;rw [List.getElem?_map,h2];rfl
theorem QIw (xs:List U8) (k:Nat) (y:U8):YK (xs.set k y)=(YK xs).set k (.int .u8 y):=by
 show Er (Value.int .u8) ((Zo xs).set k y)=(Er (Value.int .u8) (Zo xs)).set k (.int .u8 y);exact List.map_set
def Rwo (B:RwB) (_e:TypeId) (_L:List Value) (w:World) (v:Value) (xs:List U8):Prop :=
 v=.slice (some ⟨B.b,B.pre.length,none⟩) xs.length B.cap/\Box w B.b (B.pre++YK xs++B.post) B.T
section
variable {B:RwB} {e e':TypeId} {L:List Value} {w w':World} {v:Value} {xs:List U8} {i:Int} {el:U8}
theorem Rwo.ext (h:Rwo B e L w v xs) (c:Ext w w'):Rwo B e L w' v xs:=⟨h.1,h.2.ext c⟩
theorem Rwo.sub {L':List Value} (h:Rwo B e L w v xs) (_hs:∀ x∈L',x∈L):Rwo B e L' w v xs:=h
theorem Rwo.at (h:Rwo B e L w v xs) (hel:idx xs i=some el):∃ cs,At w (XD v i.toNat 1) cs/\Rep.rd (α:=U8) L w cs el:=by
 obtain ⟨h0,h1,h2⟩:=ZK hel;obtain ⟨rfl,hb⟩:=h;refine ⟨[.int .u8 el],?_,rfl⟩;show At w (Addr.add ⟨B.b,B.pre.length,none⟩ (i.toNat * 1)) _;rw [Yy,Ek];refine At.of_block hb fun j u hu=>?_;cases j with
 | zero =>
  cases hu;rw [Ev,List.getElem?_toArray,Eg,List.getElem?_append_right (Nat.le_add_right _ _),Ep,List.getElem?_append_left (by rw [J2];exact h1),Qsm h2]
 | succ j=>cases hu
end
section
variable {P:Program} [JD P] {n:Nat} {ρ:Env} {w:World}
variable {d:Option Nat} {t T:TypeId} {p:String} {af:Array Edge} {gu:Option (Nat×Bool)} {x y z:Operand}
variable {B:RwB} {e e':TypeId} {L:List Value} {v:Value} {xs:List U8} {i:Int} {el:U8}
theorem QKb {w2:World} {aT:Array TypeId} (hT:aT[0]?=some T) (hu:P.underlying T=some (.slice e)) (hs:Rwo B e' L w2 v xs) (hx:Qo n ρ x=v):Yl P n ρ ⟨d,.call ⟨.builtin .len,#[x],aT⟩,t,p,af,gu⟩ w (.int .i64 xs.length):=by
 obtain ⟨rfl,_⟩:=hs;exact Qku hT hu hx
theorem Y7 {w2:World} {k:IntKind} (hu:P.underlying T=some (.slice e)) (hs:Xo P e 1) (hown:Rwo B e L w2 v xs)
  (hel:idx xs i=some el) (hx:Qo n ρ x=v) (hy:Qo n ρ y=.int k i):Yl P n ρ ⟨d,.indexAddr T x y,t,p,af,gu⟩ w (.pointer (some (XD v i.toNat 1))):=by
 obtain ⟨h0,h1,_⟩:=ZK hel;obtain ⟨rfl,_⟩:=hown;have h2:i < (xs.length:Int):=by omega
 exact YU (Yn (Qgp _ _ _)) fun w1 _=>by simp [execOp,hx,hy,Instr.indexAt,asIntOf,run_underlying hu,h0,h2,Zk hs,XD]
theorem Y5 {y':U8} {off k:Nat} {u:Value} {vs:List Value} {K:Value->World->Prop} (hs:Xo P T k) (hc:u.cells.toList=vs) (hk:vs.length=k) (hown:Rwo B e L w v xs) (hv:v∈L) (hel:idx xs i=some el)
  (hx:Qo n ρ x=.pointer (some ((XD v i.toNat 1).add off))) (hy:Qo n ρ y=u) (hl:Nat.ble (off+k) 1=true) (h1:∀ c∈vs,c.oneCell'=true)
  (hset:∀ w' cs,Rep.rd (α:=U8) L w' cs el->Rep.rd (α:=U8) L w' (Yb cs off vs) y')
  (h:∀ w',Chg [v] w w'->Rwo B e L w' v (xs.set i.toNat y')->K undef w'):Eff P ⟨d,.store T x y,t,p,af,gu⟩ n ρ w K:=by
 obtain ⟨h0,h2,h3⟩:=ZK hel;obtain ⟨rfl,hb⟩:=hown;have hset2:Yb [.int .u8 el] off vs=[.int .u8 y']:=hset w [.int .u8 el] rfl;have hl2:off+k<=1:=by simpa using hl
 have hx2:Qo n ρ x=.pointer (some ⟨B.b,B.pre.length+i.toNat+off,none⟩):=by
  rw [hx];show Value.pointer (some ((Addr.add ⟨B.b,B.pre.length,none⟩ (i.toNat * 1)).add off))=_;rw [Yy,Yy,Ek]
 have hcs:Yb (B.pre++YK xs++B.post) (B.pre.length+i.toNat+off) vs=B.pre++YK (xs.set i.toNat y')++B.post:=by
  have hlen:(YK xs).length=xs.length:=J2 xs;have hsame:∀ u,(B.pre++YK xs++B.post).set (B.pre.length+i.toNat) u=B.pre++(YK xs).set i.toNat u++B.post:=fun u=>by
   rw [Eg,List.set_append_right _ _ (Nat.le_add_right _ _),Ep,List.set_append_left _ _ (by omega),Eg]
  match vs,hk with
  | [],hk =>
   have e1:[Value.int .u8 el]=[.int .u8 y']:=hset2;cases e1;have e2:YK (xs.set i.toNat el)=YK xs:=by
    rw [show xs.set i.toNat el=xs from by
     obtain ⟨_,e2⟩:=Eo.1 h3;rw [<-e2,List.set_getElem_self]]
   rw [e2];rfl
  | [a],hk =>
   have ho:off=0:=by
    have:k=1:=by rw [<-hk];rfl
    omega
   subst ho;have e1:[a]=[Value.int .u8 y']:=hset2;cases e1;rw [Ev,QIw];exact hsame _
  | a::a2::l,hk =>
   have:k=(a::a2::l).length:=hk.symm;simp at this;omega
 refine Y4 (vs:=vs) (k:=k) hs hc hk hx2 hy hb ?_ h1 hcs fun w' hc' hB=>h w' ⟨hc'.os,hc'.tape,hc'.output,hc'.size,fun b hbl hA=>hc'.block b hbl fun q hq=>?_⟩ ⟨by rw [List.length_set],hB⟩
 ·rw [Nat.ble_eq];simp only [List.length_append,J2];omega
 ·rw [Em] at hq;subst hq;exact (hA _ (Em.2 rfl):Qs (Value.slice (some ⟨B.b,B.pre.length,none⟩) xs.length B.cap)≠some b)
theorem QKg {e m h b:Nat} (hu:P.underlying T=some (.array m e)) (hs:Xo P e 1) (hh:1<=h/\h<=m) (hx:Qo n ρ x=.pointer (some ⟨b,0,none⟩)) (hy:Qo n ρ y=.int .i64 (h:Int)) :
  Yl P n ρ ⟨d,.slice T x none (some y) none,t,p,af,gu⟩ w (.slice (some ⟨b,0,none⟩) h m):=by
 obtain ⟨h1,h2⟩:=hh;exact YU (Yn (Qba _ _ _ _ _)) fun w1 _=>by simp [execOp,hx,hy,Instr.sliceAt,run_underlying hu,Instr.sureAddr,Instr.sliceBounds,Instr.sliceBound,asIntOf,Zk hs,h2,Addr.add]
theorem Qtb {e m h:Nat} {b:Nat} (hu:P.underlying T=some (.array m e)) (hs:Xo P e 1) (hh:1<=h/\1+h < m) (hx:Qo n ρ x=.pointer (some ⟨b,0,none⟩)) (hy:Qo n ρ y=.int .i64 ((1+h:Nat):Int)) :
  Yl P n ρ ⟨d,.slice T x (some (.const (.int .i64 1))) (some y) none,t,p,af,gu⟩ w (.slice (some ⟨b,1,none⟩) h (m - 1)):=by
 obtain ⟨h1,h2⟩:=hh;have h0:¬ m=1:=by omega
 have h3:(1:Int)+(h:Int)<=(m:Int):=by omega
 have h4:(0:Int)<=1+(h:Int):=by omega
 have h5:(1+(h:Int)).toNat=1+h:=by omega
 have hc1:Qo n ρ (.const (.int .i64 1))=.int .i64 1:=rfl;have h6:¬ m - 1=0:=by omega
 exact YU (Yn (Qba _ _ _ _ _)) fun w1 _=>by
  simp [execOp,hx,hy,hc1,Instr.sliceAt,run_underlying hu,Instr.sureAddr,Instr.sliceBounds,Instr.sliceBound,asIntOf,Zk hs,h0,h3,h4,h5,Addr.add];intro hlt;omega
end
theorem Qrb {w:World} {b len cap:Nat} {pre post:List Value} {xs:List U8} {cs:List Value} {T':TypeId} (hb:Box w b cs T') (hcs:cs=pre++YK xs++post) (hl:xs.length=len) (hlc:len<=cap/\cap<=1000) (hc:pre.length+cap<=cs.length):SlRd (α:=U8) [] w (.slice (some ⟨b,pre.length,none⟩) len cap) xs:=by
 subst hl;refine .inr ⟨b,pre.length,cap,cs.toArray,T',(0,0),rfl,hb,Avoids.nil _,hlc.1,by unfold maxLen;omega,by show pre.length+cap * 1<=_;simp;omega,?_⟩;have h1:xs.length * Rep.n U8=xs.length:=Ek _;have h2:(cs.toArray.toList.drop pre.length).take (xs.length * Rep.n U8)=YK xs:=by
  rw [h1,show cs.toArray.toList=cs from rfl,hcs,Eg,List.drop_left,List.take_append_of_le_length (by rw [J2];exact Eq_ _),List.take_of_length_le (by rw [J2];exact Eq_ _)]
 rw [h2];refine ⟨by rw [J2,h1],fun i x hx=>?_⟩;show ((YK xs).drop (i * 1)).take 1=[.int .u8 x];have h3:=Qsm hx;obtain ⟨h4,h5⟩:=Eo.1 h3;rw [Ek,En h4,h5];rfl
end Go.Gw

end
section
set_option linter.unusedSectionVars false
set_option linter.unusedVariables false
namespace Go.Gw
open Go
section
variable {P:Program} [JD P] {n:Nat} {ρ:Env} {w:World}
variable {d:Option Nat} {t T U:TypeId} {p:String} {af:Array Edge} {gu:Option (Nat×Bool)} {x y z:Operand}
theorem Qqy:∀ (vs cells pre:List Value),vs.length=cells.length->Yb (pre++cells) pre.length vs=pre++vs
 | [],cells,pre,h=>by
  have:cells=[]:=Ed h.symm;subst this;rfl
 | v::vs,[],pre,h=>by cases h
 | v::vs,c::cells,pre,h=>by
  have h1:=Qqy vs cells (pre++[v]) (by simpa using h);show Yb ((pre++c::cells).set pre.length v) (pre.length+1) vs=_;rw [show (pre++c::cells).set pre.length v=(pre++[v])++cells by simp];simpa using h1
theorem QFz {vs cells:List Value} (h:vs.length=cells.length):Yb cells 0 vs=vs:=Qqy vs cells [] h
theorem Qvt {e:TypeId} {zz:Value} {L:List Value} {v:Value} {xs:List U8} {s:ByteArray} {K:Value->World->Prop} {aT:Array TypeId} (hu:P.underlying T=some (.slice e)) (hi:EInfo P e 1 1 zz) (hT:aT=#[T,U]) (hx:Qo n ρ x=v) (hy:Qo n ρ y=.string s)
  (hown:Own e L w v xs) (hlen:xs.length=s.size) (h0:0 < s.size) (h:∀ w',Chg [v] w w'->Own e L w' v (bl s)->K (.int .i64 s.size) w'):Eff P ⟨d,.call ⟨.builtin .copy,#[x,y],aT⟩,t,p,af,gu⟩ n ρ w K:=by
 subst hT;refine Z8 (QIe hx hy) fun w1 e1=>?_;replace hown:=hown.step (Stepp.ext e1) e1 (fun _ _=>Avoids.nil _);obtain ⟨i,i1,i2,i3,i4,i5,i6⟩:=hi.ex;obtain ⟨cells,ho,hE⟩:=hown;rcases ho.2 with ⟨_,hh⟩ | ⟨g,cap,cur,rfl,_,hg,h4,h5,hcs,htake⟩
 ·omega
 have hcl:cells.length=s.size:=by rw [hE.1,hlen];exact Ek _
 have hsl:(Lib.strCells s).length=s.size:=Lib.strCells_length s;obtain ⟨w',hr,ho2,hg2⟩:=Qjz (P:=P) (Lib.strCells s) 0 0 cells w1 ho (by omega) (fun c hc=>by
  rw [Qrs] at hc;obtain ⟨b,_,rfl⟩:=List.mem_map.1 hc;rfl)
 have hcp:(Builtin.copy_ #[T,U] t #[.slice (some ⟨g,0,none⟩) xs.length cap,.string s]).run P w1=.ok (goInt s.size) w':=by
  have hm:Nat.min s.size xs.length=s.size:=by rw [hlen];exact Nat.min_self _
  have hf:=Lib.run_firstCells_string (P:=P) (w:=w1) i.size s;simp [Builtin.copy_,run_underlying hu,Builtin.lenOf,sizeOf,typeInfo,i1,hm,hf,hr,Result.andThen,Sem.run_bind]
 have e0:execOp (Qo n ρ) ⟨d,.call ⟨.builtin .copy,#[x,y],#[T,U]⟩,t,p,af,gu⟩=(Builtin.copy_ #[T,U] t #[.slice (some ⟨g,0,none⟩) xs.length cap,.string s] >>= fun v=>Pure.pure (Next.value v)):=by
  simp [execOp,resolve,invoke,builtin,hx,hy]
 rw [e0];simp only [Sem.run_bind,hcp,Result.andThen,Sem.run_pure,effR];have hc:Chg [Value.slice (some ⟨g,0,none⟩) xs.length cap] w1 w':=⟨hg2.os,hg2.tape,hg2.output,hg2.size,fun b hb hA=>hg2.block b hb (fun e=>hA _ (Em.2 rfl) (by cases e;rfl))⟩;refine h w' ((e1.mono (fun _ h=>by cases h)).trans hc) ⟨Lib.strCells s,?_,Qwc _ _ _⟩;rw [Zr,<-hlen];rw [Ev,QFz (by omega)] at ho2;exact ho2
end
end Go.Gw

end
