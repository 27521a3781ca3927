/- Lock: the shortest way, by the program. Condition: the Nx and the state are right. -/
import Derived.Test.YthonianbjkhnpaaGreatDoorGwLck17
set_option linter.unusedVariables false
set_option linter.unusedSimpArgs false
set_option linter.unusedSectionVars false
set_option maxRecDepth 4096
set_option linter.unusedVariables false
open List renaming getElem?_eq_getElem→Ea,getElem_mem→Ec,length_map→Ef,getElem?_map→Eg,getElem?_eq_none→Eh
open Go.Gw.Runs renaming call→Eb,some→Ed
open Bool renaming false_ne_true→Ee
namespace Go.Gw
open Go
attribute [local irreducible] loop
def Run (p:Ng):Nd->List Nj->Nd->Prop
 | x,[],y=>x=y
 | x,e::l,y=>e∈YR p x/\Run p (X1 p x e) l y
theorem Run.snoc {p:Ng}:∀ {l:List Nj} {x z:Nd} {e:Nj},Run p x l z->e∈YR p z->Run p x (l++[e]) (X1 p z e)
 | [],x,z,e,h,he=>by cases h;exact ⟨he,rfl⟩
 | a::l,x,z,e,h,he=>⟨h.1,Run.snoc h.2 he⟩
theorem QUd {p:Ng} {x:Nd} {e:Nj} (h:e∈YR p x):YO p e=0/\Zb p x e=0:=by
 unfold YR at h;rw [List.mem_filter,decide_eq_true_eq] at h;exact ⟨Qmf h.1,h.2⟩
theorem QKj {p:Ng} {x:Nd} {e:Nj} (h1:YO p e=0):evE p x e=Zb p x e:=by
 unfold evE;rw [if_pos h1]
def Qgj (c:List Nz):List Nj:=(c.dropLast.map Nz.Nw).reverse
def NodeOk (p:Ng) (x0:Nd) (d:Nat) (y:Nd) (o:Option Nl):Prop:=∃ nd,o=some nd/\nd.line=some ⟨p,y⟩/\Run p x0 (Qgj (ZB o)) y/\(Qgj (ZB o)).length=d
def PathsOk (p:Ng) (x0:Nd) (d:Nat) (ns:List (Option Nl)):Prop:=∀ o∈ns,∃ y,NodeOk p x0 d y o
theorem Qyl {v:Option Np} {e:Nj} {o:Option Nl} (h:o≠none):Qgj (ZB (some (Nl.mk v (ZB o) e)))=Qgj (ZB o)++[e]:=by
 cases o with
 | none=>exact absurd rfl h
 | some d=>simp [Qgj,ZB]
theorem NodeOk.next {p:Ng} {x0:Nd} {d:Nat} {y:Nd} {o:Option Nl} (h:NodeOk p x0 d y o) {e:Nj} (he:e∈YR p y):NodeOk p x0 (d+1) (X1 p y e) (some (Nl.mk (some ⟨p,X1 p y e⟩) (ZB o) e)):=by
 obtain ⟨nd,rfl,h2,h3,h4⟩:=h;refine ⟨_,rfl,rfl,?_,?_⟩
 ·rw [Qyl (by simp)];exact h3.snoc he
 ·rw [Qyl (by simp),List.length_append,h4];rfl
theorem PathsOk.snoc {p:Ng} {x0:Nd} {d:Nat} {ns:List (Option Nl)} (h:PathsOk p x0 d ns) {y:Nd} {o:Option Nl} (ho:NodeOk p x0 d y o):PathsOk p x0 d (ns++[o]):=fun q hq=>by
 rcases List.mem_append.1 hq with hq | hq
 ·exact h q hq
 ·rw [List.mem_singleton.1 hq];exact ⟨y,ho⟩
def lns (ns:List (Option Nl)):List (Option Np):=ns.map fun o=>o.bind Nl.line
def LinesOf (p:Ng) (ns:List (Option Nl)) (xs:List Nd):Prop:=lns ns=xs.map fun x=>some ⟨p,x⟩
theorem LinesOf.len {p:Ng} {ns:List (Option Nl)} {xs:List Nd} (h:LinesOf p ns xs):ns.length=xs.length:=by
 have:=congrArg List.length h;simpa [lns] using this
theorem LinesOf.snoc {p:Ng} {ns:List (Option Nl)} {xs:List Nd} (h:LinesOf p ns xs) {nd:Nl} {y:Nd} (hn:nd.line=some ⟨p,y⟩):LinesOf p (ns++[some nd]) (xs++[y]):=by
 unfold LinesOf lns at h ⊢;rw [List.map_append,List.map_append,h];simp [hn]
theorem QFm {p:Ng} (hp:PlantOk p):∀ {ns:List (Option Nl)} {xs:List Nd},LinesOf p ns xs->(∀ x∈xs,StateOk p x)->Qed ns=some (xs.map fun x=>Zi p x (Yd p))
 | [],xs,h,_=>by
  have:xs=[]:=List.length_eq_zero_iff.1 h.len.symm;subst this;rfl
 | o::ns,[],h,_=>by have:=h.len;simp at this
 | o::ns,x::xs,h,hok=>by
  unfold LinesOf lns at h;rw [List.map_cons,List.map_cons] at h;obtain ⟨h1,h2⟩:=List.cons.inj h;cases o with
  | none=>cases h1
  | some nd =>
   have h1:nd.line=some ⟨p,x⟩:=h1;unfold Qed;rw [Qp,h1,QUe hp (hok x (List.mem_cons_self ..)),Qp,QFm hp (ns:=ns) (xs:=xs) h2 (fun y hy=>hok y (List.mem_cons_of_mem _ hy))];rfl
theorem QFl (p:Ng) (x:Nd):Zi p x (Yd p)=(YR p x).map fun e=>Nu.mk e (some ⟨p,X1 p x e⟩):=rfl
theorem PathsOk.at {p:Ng} {x0:Nd} {d:Nat} {ns:List (Option Nl)} (h:PathsOk p x0 d ns) {xs:List Nd} (hl:LinesOf p ns xs) {i:Nat} (hi:i < xs.length) (hn:i < ns.length):NodeOk p x0 d xs[i] ns[i]:=by
 obtain ⟨y,nd,h1,h2,h3⟩:=h _ (Ec hn);have h4:=congrArg (fun l:List (Option Np)=>l[i]?) hl;simp only [lns,Eg,Ea hi,Ea hn,Option.map_some,h1,Qp,h2] at h4;have h5:y=xs[i]:=by
  have:=Option.some.inj (Option.some.inj h4);exact congrArg Np.Nd this
 subst h5;exact ⟨nd,h1,h2,h3⟩
theorem QNh {p:Ng} (hp:PlantOk p) {x:Nd} (hok:StateOk p x) (hc:DecOk x.Nh) {was:List (Option Nl)} {i:Nat} (hi:i < was.length) (acc0:List Nd×List ByteArray) (ns0:List (Option Nl)) (hl:LinesOf p ns0 acc0.1) (h8:acc0.1.length<=800000) {x0:Nd} {d:Nat} (hN:NodeOk p x0 d x was[i]) (hP:PathsOk p x0 (d+1) ns0) :
  ∃ ns1,loop (Qna (Zi p x (Yd p)) was i) (0,ns0,acc0.2)=some (ns1,((Zu p x).foldl Yu acc0).2)/\LinesOf p ns1 ((Zu p x).foldl Yu acc0).1/\PathsOk p x0 (d+1) ns1:=by
 have hel:(YR p x).length<=280:=by have:=QFs hp x;unfold Zu at this;rwa [Ef] at this
 have key:Runs (loop (Qna (Zi p x (Yd p)) was i) (0,ns0,acc0.2)) (fun r=>r.2=((Zu p x).foldl Yu acc0).2/\LinesOf p r.1 ((Zu p x).foldl Yu acc0).1/\PathsOk p x0 (d+1) r.1):=by
  refine Runs.loop (fun s=>∃ (k:Nat) (ns:List (Option Nl)),k<=(YR p x).length/\s=((k:Int),ns,((((YR p x).take k).map (X1 p x)).foldl Yu acc0).2)/\LinesOf p ns ((((YR p x).take k).map (X1 p x)).foldl Yu acc0).1/\PathsOk p x0 (d+1) ns) (fun s=>(YR p x).length - s.1.toNat) ⟨0,ns0,Nat.zero_le _,rfl,hl,hP⟩ ?_;rintro _ ⟨k,ns,hk,rfl,hln,hPn⟩;obtain ⟨z,hz,hzl,hzm⟩:=Qeu (((YR p x).take k).map (X1 p x)) acc0;have hzl2:z.length<=280:=Nat.le_trans hzl (by rw [Ef,List.length_take];omega);unfold Qna;have hsl:(Zi p x (Yd p)).length=(YR p x).length:=by rw [QFl,Ef]
  by_cases hlt:k < (YR p x).length
  ·have hm:(YR p x).length - (w64 ((k:Int)+1)).toNat < (YR p x).length - ((k:Nat):Int).toNat:=by rw [Xf k (by omega)];simp;omega
   have hmem:=Ec hlt;have hmem2:(YR p x)[k]∈Yd p/\decide (Zb p x (YR p x)[k]=0)=true:=List.mem_filter.1 hmem;have hst:=of_decide_eq_true hmem2.2;have hy:=Qpt hp hok (Qmf hmem2.1) hst;have hT:=Qqd hp hy (by rw [Qwc];exact hc);have hnext:((((YR p x).take (k+1)).map (X1 p x)).foldl Yu acc0)=Yu ((((YR p x).take k).map (X1 p x)).foldl Yu acc0) (X1 p x (YR p x)[k]):=by
    rw [<-Qdd (YR p x) (X1 p x) k hlt,List.foldl_append];rfl
   have hidx:idx (Zi p x (Yd p)) (k:Int)=some (Nu.mk (YR p x)[k] (some ⟨p,X1 p x (YR p x)[k]⟩)):=by
    rw [Xj?,QFl,Eg,Ea hlt];rfl
   have hNy:=hN.next hmem;generalize hgy:X1 p x (YR p x)[k]=y at hy hT hnext hidx hNy;rw [hz] at hnext hln ⊢;refine Runs.bif_t (by rw [hsl];exact Xw hlt) (Eb hidx (Eb rfl (Eb (Qzl hT) (Runs.bif (fun hn=>?_) (fun hn=>?_)))))
   ·have hn2:YP (acc0.2++z.map YB) (YB y)=false:=by simpa using hn
    have hll:=hln.len;refine Eb (Xj hi) (Eb (Zp (by simp at hll ⊢;omega)) (Ed ⟨⟨k+1,ns++[some (Nl.mk (some ⟨p,y⟩) (ZB was[i]) (YR p x)[k])],by omega,?_,?_,hPn.snoc hNy⟩,hm⟩))
    ·rw [hnext,Xf k (by omega)];unfold Yu ZQ;rw [if_neg (by rw [hn2];exact Ee),if_neg (by rw [hn2];exact Ee)]
    ·rw [hnext];unfold Yu;rw [if_neg (by rw [hn2];exact Ee)];exact hln.snoc rfl
   ·have hn2:YP (acc0.2++z.map YB) (YB y)=true:=by simpa using hn
    refine Ed ⟨⟨k+1,ns,by omega,?_,?_⟩,hm⟩
    ·rw [hnext,Xf k (by omega)];unfold Yu;rw [if_pos hn2]
    ·rw [hnext];unfold Yu;rw [if_pos hn2];exact ⟨hln,hPn⟩
  ·have:k=(YR p x).length:=by omega
   subst this;refine Runs.bif_f (by rw [hsl];exact Xy _) (Ed ?_);rw [List.take_length] at hln ⊢;exact ⟨rfl,hln,hPn⟩
 obtain ⟨⟨ns1,keys1⟩,h1,h2,h3⟩:=key;exact ⟨ns1,by rw [h1];dsimp only at h2;rw [h2],h3⟩
theorem QNi {p:Ng} (hp:PlantOk p) {c:Int} (hc:DecOk c) {ns:List (Option Nl)} {xs:List Nd} (hl:LinesOf p ns xs) (hok:Qhx p c xs) (h2:xs.length<=2000) (keys:List ByteArray) {x0:Nd} {d:Nat} (hP:PathsOk p x0 d ns) :
  ∃ ns1,loop (Qnb (xs.map fun x=>Zi p x (Yd p)) ns) (0,[],keys)=some (ns1,(rnd p xs keys).2)/\LinesOf p ns1 (rnd p xs keys).1/\PathsOk p x0 (d+1) ns1:=by
 have hlen:=hl.len;have key:Runs (loop (Qnb (xs.map fun x=>Zi p x (Yd p)) ns) (0,[],keys)) (fun r=>r.2=(rnd p xs keys).2/\LinesOf p r.1 (rnd p xs keys).1/\PathsOk p x0 (d+1) r.1):=by
  refine Runs.loop (fun s=>∃ (k:Nat) (ms:List (Option Nl)),k<=xs.length/\s=((k:Int),ms,(((xs.take k).flatMap (Zu p)).foldl Yu ([],keys)).2)/\LinesOf p ms (((xs.take k).flatMap (Zu p)).foldl Yu ([],keys)).1/\PathsOk p x0 (d+1) ms) (fun s=>xs.length - s.1.toNat) ⟨0,[],Nat.zero_le _,rfl,rfl,fun o ho=>by cases ho⟩ ?_;rintro _ ⟨k,ms,hk,rfl,hln,hPm⟩;unfold Qnb;have hml:(xs.map fun x=>Zi p x (Yd p)).length=xs.length:=by simp
  by_cases hlt:k < xs.length
  ·have hm:xs.length - (w64 ((k:Int)+1)).toNat < xs.length - ((k:Nat):Int).toNat:=by rw [Xf k (by omega)];simp;omega
   obtain ⟨h3,h4⟩:=hok _ (Ec hlt);obtain ⟨z,hz,hzl,_⟩:=Qeu ((xs.take k).flatMap (Zu p)) ([],keys);have hz2:=Qmi hp (xs.take k);have hz3:(xs.take k).length<=2000:=by simp;omega
   obtain ⟨ns1,h5,h6,h7⟩:=QNh hp h3 (by rw [h4];exact hc) (was:=ns) (i:=k) (by omega) (((xs.take k).flatMap (Zu p)).foldl Yu ([],keys)) ms hln (by rw [hz];simp;omega) (hP.at hl hlt (by omega)) hPm;refine Runs.bif_t (by rw [hml];exact Xw hlt) (Eb (b:=Zi p xs[k] (Yd p)) (by rw [Xj?,Eg,Ea hlt];rfl) (Eb h5 (Ed ⟨⟨k+1,ns1,by omega,?_,?_,h7⟩,hm⟩)))
   ·rw [Qsh xs k hlt,Xf k (by omega)]
   ·rw [Qsh xs k hlt];exact h6
  ·have:k=xs.length:=by omega
   subst this;refine Runs.bif_f (by rw [hml];exact Xy _) (Ed ?_);rw [List.take_length] at hln ⊢;exact ⟨rfl,hln,hPm⟩
 obtain ⟨⟨ns1,keys1⟩,h1,h2,h3⟩:=key;exact ⟨ns1,by rw [h1];dsimp only at h2;rw [h2],h3⟩
/-! ### The way back -/
theorem Qyb:∀ (r:List Nz) (nd:Nl),nd.from_=r->∀ (out:List Nj),out.length+r.length<=1000000->loop Qgp (some nd,out)=some (out++(ZB (some nd)).dropLast.map Nz.Nw)
 | [],nd,h,out,hl=>by
  refine (ZE (o:=out) ?_).trans ?_
  ·unfold Qgp;dsimp only;rw [Qp,h];rfl
  ·simp [ZB,h]
 | a::r,nd,h,out,hl=>by
  have hl:out.length+(r.length+1)<=1000000:=hl;have hs:Qgp (some nd,out)=some (.inl (some (Nl.mk a.line r a.Nw),out++[nd.Nw])):=by
   unfold Qgp;dsimp only;rw [Qp,h];show Option.bind (app out [nd.Nw]) _=_;rw [Zp (by simp;omega)];rfl
  rw [JC hs,Qyb r _ rfl _ (by simp;omega)];simp [ZB,h]
theorem QVn (l:List Nj) (hl:l.length<=1000000):Qkt l=some l.reverse:=by
 refine Runs.eq ?_;unfold Qkt;have e1:w64 ((l.length:Int) - 1)=(l.length:Int) - 1:=Yy (by omega);rw [e1];refine Runs.callR (R:=fun x=>x=l.reverse) (Runs.loop (fun s=>∃ i:Nat,s.2.1=(i:Int)/\s.2.1+s.2.2+1=(l.length:Int)/\s.1.length=l.length/\2 * i<=l.length/\∀ k,k < l.length->s.1[k]?=if k < i\/l.length<=k+i then l[l.length - 1 - k]? else l[k]?) (fun s=>(s.2.2 - s.2.1+1).toNat) ⟨0,rfl,by show (0:Int)+((l.length:Int) - 1)+1=_;omega,rfl,by omega,fun k hk=>by rw [if_neg (by omega)]⟩ ?_) ?_
 rotate_left
 ·rintro _ rfl;exact Ed rfl
 rintro ⟨ys,i',j⟩ ⟨i,rfl,h2,h3,h4,h5⟩;dsimp only at h2 h3 h5;unfold QFb;by_cases hij:(i:Int) < j
 ·have hj:j=((l.length - 1 - i:Nat):Int):=by omega
  subst hj;have hi1:i < ys.length:=by omega
  have hj1:l.length - 1 - i < ys.length:=by omega
  refine Runs.bif_t (decide_eq_true hij) (Eb (Xj hj1) (Eb (Xj hi1) (Eb (Xj hi1) (Eb (b := (ys.set ((i:Nat):Int).toNat ys[l.length - 1 - i])[l.length - 1 - i]'(by simp;omega)) (Xj (by simp;omega)) (Ed ⟨⟨i+1, Xf i (by omega), ?_, by simp [h3], by omega, fun k hk => ?_⟩, ?_⟩)))))
  ·show w64 ((i:Int)+1)+w64 (((l.length - 1 - i:Nat):Int) - 1)+1=_;rw [Xf i (by omega),Yy (by omega)];omega
  ·rw [Int.toNat_natCast,Int.toNat_natCast,List.getElem?_set,List.getElem?_set];have hyi:=h5 i (by omega);have hyj:=h5 (l.length - 1 - i) (by omega);rw [if_neg (by omega),Ea hi1] at hyi;rw [if_neg (by omega),Ea hj1] at hyj;by_cases e1:l.length - 1 - i=k
   ·subst e1;rw [if_pos rfl,if_pos (by simp;omega),if_pos (by omega),hyi];congr 1;omega
   ·rw [if_neg e1];by_cases e2:i=k
    ·subst e2;rw [if_pos rfl,if_pos (by omega),if_pos (by omega),hyj]
    ·rw [if_neg e2,h5 k hk];by_cases e3:k < i\/l.length<=k+i
     ·rw [if_pos e3,if_pos (by omega)]
     ·rw [if_neg e3,if_neg (by omega)]
  ·show (w64 (((l.length - 1 - i:Nat):Int) - 1) - w64 ((i:Int)+1)+1).toNat < (((l.length - 1 - i:Nat):Int) - (i:Int)+1).toNat;rw [Xf i (by omega),Yy (by omega)];omega
 ·refine Runs.bif_f (decide_eq_false hij) (Ed ?_);show ys=l.reverse;refine List.ext_getElem? fun k=>?_;by_cases hk:k < l.length
  ·rw [h5 k hk,List.getElem?_reverse hk];by_cases e:k < i\/l.length<=k+i
   ·rw [if_pos e]
   ·rw [if_neg e];congr 1;omega
  ·rw [Eh (by omega),Eh (by simp;omega)]
theorem QNk {p:Ng} (hp:PlantOk p) {x:Nd} (hx:StateOk p x) {to:Nq} (hn:Zl p to.e0=true):∃ t,idx x.Na to.e0=some t/\cut t.Nc 0 t.Nk=some (t.Nc.take t.Nk.toNat)/\(t.Nc.take t.Nk.toNat).length < 1000000/\Jv to x=decide (to.e1∈t.Nc.take t.Nk.toNat):=by
 obtain ⟨k,h1,h2⟩:=QGi hx hn;obtain ⟨h3,h4⟩:=QGl hx (Ec h2);have h5:=(hx.s hp).ch _ (Ec h2);refine ⟨_,by rw [h1,Xj h2],h3,by omega,?_⟩;unfold Jv;rw [h1,Int.toNat_natCast,Ea h2]
theorem Qzi {p:Ng} (hp:PlantOk p) {x0:Nd} {d:Nat} (hd:d<=10000) {to:Nq} (ht:Zl p to.e0=true) {ns:List (Option Nl)} {xs:List Nd} (hl:LinesOf p ns xs) (hP:PathsOk p x0 d ns) (hok:∀ x∈xs,StateOk p x) (hx:xs.length<=1000000) :
    ∀ j i:Nat,i+j=xs.length->∃ o,loop (Qje to ns) (i:Int)=some o/\(((xs.drop i).any (Jv to)=false/\o=.inr ())\/((xs.drop i).any (Jv to)=true/\∃ l y,o=.inl (.inr (.inl (l,0)))/\Run p x0 l y/\l.length=d/\StateOk p y/\Jv to y=true))
  | 0,i,hij=>by
    have:i=ns.length:=by have:=hl.len;omega
    subst this;refine ⟨.inr (),ZE ?_,.inl ⟨?_,rfl⟩⟩
    · unfold Qje;rw [Xy];rfl
    · rw [hl.len,List.drop_length];rfl
  | j+1,i,hij=>by
    have hi:i < xs.length:=by omega
    have hn:i < ns.length:=by have:=hl.len;omega
    have hx1:=hok _ (Ec hi);obtain ⟨nd,h1,h2,h3,h4⟩:=hP.at hl hi hn;obtain ⟨t,t1,t2,t3,t4⟩:=QNk hp hx1 ht;rw [List.drop_eq_getElem_cons hi,List.any_cons];have hstep:∀ b:Bool,decide (to.e1∈t.Nc.take t.Nk.toNat)=b->Qje to ns (i:Int)=(bif !b then some (.inl (w64 ((i:Int)+1))) else Option.bind (loop Qgp (ns[i],[])) fun x=>Option.bind (Qkt x) fun r=>some (.inr (.inl (.inr (.inl (r,0)))))):=fun b hb=>by
      unfold Qje;rw [Xw hn,cond_true,Xj hn,Qp]
      conv=>lhs;rw [h1]
      rw [Qp,h2,Qp];dsimp only;rw [t1,Qp,t2,Qp,Qex _ _ t3,Qp,hb,h1]
    by_cases hq:Jv to xs[i]=true
    · rw [t4] at hq;have hb:=hstep true hq;have hlen:(ZB (some nd)).dropLast.length=d:=by
        rw [h1] at h4;simpa [Qgj] using h4
      have hfl:nd.from_.length=d:=by simpa [ZB] using hlen
      rw [h1,Qyb nd.from_ nd rfl [] (by simp;omega),Qp,List.nil_append,QVn _ (by rw [Ef,hlen];omega)] at hb;refine ⟨_,ZE hb,.inr ⟨by rw [t4,hq];rfl,_,xs[i],rfl,?_,?_,hx1,by rw [t4];exact hq⟩⟩
      · rw [h1] at h3;exact h3
      · rw [h1] at h4;exact h4
    · have hq2:Jv to xs[i]=false:=by simpa using hq
      rw [t4] at hq2;have hb:=hstep false hq2;rw [Bool.not_false,cond_true,Xf i (by omega)] at hb;obtain ⟨o,h5,h6⟩:=Qzi hp hd ht hl hP hok hx j (i+1) (by omega);refine ⟨o,by rw [JC hb];exact h5,?_⟩;rw [t4,hq2,Bool.false_or];exact h6
theorem QNl {p:Ng} (hp:PlantOk p) {c:Int} (hc:DecOk c) {x0:Nd} {to:Nq} (ht:Zl p to.e0=true):∀ (n:Nat) (ns:List (Option Nl)) (xs:List Nd) (keys:List ByteArray) (d:Nat),LinesOf p ns xs->PathsOk p x0 d ns->SrchOk p c xs keys->Qfg xs keys < n->d+n<=10000 ->
    ∃ o,loop (Qfe to) (ns,keys)=some o/\((J9 p to n xs keys d=(-1,true)/\o=.inr ())\/(J9 p to n xs keys d=(0,false)/\o=.inl ([],8))\/∃ l y,J9 p to n xs keys d=((l.length:Int),true)/\o=.inl (l,0)/\Run p x0 l y/\StateOk p y/\Jv to y=true):=by
  intro n
  induction n with
  | zero=>intro ns xs keys d _ _ _ h;omega
  | succ n ih =>
    intro ns xs keys d hl hP h hmeas hd;have hlen:=hl.len;have hnl:=h.nl;have hkl:=h.kl;unfold J9;by_cases hnil:xs=[]
    · rw [if_pos hnil];subst hnil;refine ⟨.inr (),ZE ?_,.inl ⟨rfl,rfl⟩⟩;unfold Qfe;dsimp only;rw [hlen];rfl
    · rw [if_neg hnil];have hpos:0 < xs.length:=List.length_pos_iff.2 hnil;obtain ⟨o,h1,h2⟩:=Qzi hp (by omega) ht hl hP (fun x hx=>(h.ok x hx).1) (by omega) xs.length 0 (by omega);rw [List.drop_zero] at h2;rw [show ((0:Nat):Int)=0 from rfl] at h1;rcases h2 with ⟨h2,rfl⟩ | ⟨h2,l,y,rfl,h3,h4,h5,h6⟩
      · rw [if_neg (by rw [h2];exact Ee)];by_cases hbig:2000 < keys.length
        · rw [if_pos hbig];refine ⟨.inl ([],8),ZE ?_,.inr (.inl ⟨rfl,rfl⟩)⟩;unfold Qfe;dsimp only;rw [decide_eq_true (show (0:Int) < (ns.length:Int) by omega),cond_true,h1,Qp];show (bif _ then _ else _)=_;rw [decide_eq_true (show (2000:Int) < (keys.length:Int) by omega),cond_true]
        · rw [if_neg hbig];obtain ⟨r1,r2,z,hz,hzl⟩:=h.rnd hp hnil (by omega);obtain ⟨ns1,g1,g2,g3⟩:=QNi hp hc hl h.ok (by omega) keys hP;have hs:Qfe to (ns,keys)=some (.inl (ns1,(rnd p xs keys).2)):=by
            unfold Qfe;dsimp only;rw [decide_eq_true (show (0:Int) < (ns.length:Int) by omega),cond_true,h1,Qp];show (bif _ then _ else _)=_;rw [decide_eq_false (show ¬ (2000:Int) < (keys.length:Int) by omega),cond_false];unfold mk;rw [if_pos (by omega),Qp];unfold Qjt;rw [show ns.isEmpty=false by cases ns with
              | nil=>rw [List.length_nil] at hlen;omega
              | cons a l=>rfl,cond_false,QFm hp hl (fun x hx=>(h.ok x hx).1),Qp,g1];rfl
          rw [JC hs];exact ih ns1 _ _ (d+1) g2 g3 r1 (by omega) (by omega)
      · rw [if_pos h2];refine ⟨.inl (l,0),ZE ?_,.inr (.inr ⟨l,y,by rw [h4],rfl,h3,h5,h6⟩)⟩;unfold Qfe;dsimp only;rw [decide_eq_true (show (0:Int) < (ns.length:Int) by omega),cond_true,h1];rfl
theorem QNn {p:Ng} (hS:PlantS p) {x:Nd} (hX:StateS x) (h0:ZG p x=0) {to:Nq} (h1:Zl p to.e0=true) (h2:Ya p to.e1=true) :
  ∃ l e,Qgq p x to=some (l,e)/\((J9 p to Qaz [x] [YB x] 0=(-1,true)/\l=[]/\e=12)\/(J9 p to Qaz [x] [YB x] 0=(0,false)/\l=[]/\e=8)\/(J9 p to Qaz [x] [YB x] 0=((l.length:Int),true)/\e=0/\∃ y,Run p x l y/\StateOk p y/\Jv to y=true)):=by
 obtain ⟨hp,hx,hp0⟩:=QDa h0;have hc:=Qys hx.cnt;unfold Qgq;rw [QCz hS hX,Qp,if_pos h0,QGh hS,Qp,Qvp hS,Qp,h1,h2,show (bif true then (0:Int) else 6)=0 from rfl,JB _ (by simp),Qp];rw [show ZD [((some (Np.mk p x),(0:Int)):Option Np×Int).2,0,0]=0 from rfl,decide_eq_true rfl,Bool.not_true,cond_false];unfold Qnr;dsimp only;rw [Qp,Qzl (Qqd hp hx hc),Qp,Qp];dsimp only;obtain ⟨o,g1,g2⟩:=QNl hp hc (x0:=x) h1 Qaz [some (Nl.mk (some ⟨p,x⟩) [] (Nj.mk 0 0 0))] [x] [YB x] 0 rfl (fun o ho=>by rw [List.mem_singleton.1 ho];exact ⟨x,_,rfl,rfl,rfl,rfl⟩) (QFg hx) (QBm x) (by unfold Qaz;omega);rw [show ZQ [] (YB x)=[YB x] from rfl,g1,Qp];rcases g2 with ⟨g2,rfl⟩ | ⟨g2,rfl⟩ | ⟨l,y,g2,rfl,g3⟩
 ·exact ⟨_,_,rfl,.inl ⟨g2,rfl,rfl⟩⟩
 ·exact ⟨_,_,rfl,.inr (.inl ⟨g2,rfl,rfl⟩)⟩
 ·exact ⟨_,_,rfl,.inr (.inr ⟨g2,rfl,y,g3⟩)⟩
theorem QNm {p:Ng} (hS:PlantS p) {x:Nd} (hX:StateS x) {to:Nq} {e:Int} (he:ZD [ZG p x,bif Zl p to.e0 then 0 else 6,bif Ya p to.e1 then 0 else 6]=e) (h0:e≠0):Qgq p x to=some ([],e):=by
 unfold Qgq;rw [QCz hS hX,Qp,QGh hS,Qp,Qvp hS,Qp,JB _ (by simp),Qp];have e1:(if ZG p x=0 then ((some (Np.mk p x),0):Option Np×Int) else (none,ZG p x)).2=ZG p x:=by
  by_cases h:ZG p x=0
  ·rw [if_pos h,h]
  ·rw [if_neg h]
 rw [e1,he,decide_eq_false h0];rfl
end Go.Gw
