/- Laws of the walk. Condition: each theorem says its own. -/
import Derived.Test.YthonianbjkhnpaaGreatDoorGwLck17
import Derived.Test.YthonianbjkhnpaaGreatDoorGwLawLockWays
set_option linter.unusedVariables false
set_option linter.unusedSimpArgs false
set_option linter.unusedSectionVars false
open List renaming mem_cons_self→Ea,mem_cons_of_mem→Eb,getElem?_eq_getElem→Ec,mem_singleton→Ed,length_append→Ee,length_eq_zero_iff→Ef,map_cons→Eh,getElem_mem→Ei,mem_map→Ek,flatMap_cons→El,cons→Em,length_cons→En,mem_append→Eo,mem_flatMap→Eq_,length_map→Er,mem_filter→Es,foldl_cons→Ev,nil_append→Ew,length_pos_iff→Ex,mem_cons→Ez,getElem?_map→EA,nodup_append→EB,any_eq_false→EC,length_take→ED,cons_append→EE,map_append→EF,getElem?_eq_none→EH,mem_append_right→EI,mem_range→EJ,mem_append_left→EK,mem_iff_getElem→EL,mem_map_of_mem→EM,map_map→EO
open Int renaming toNat_natCast→Eg
open Bool renaming false_ne_true→Ej
open Go.Gw.Runs renaming call→Ep,some→Et
open Nat renaming zero_add→Eu,le_refl→Ey,zero_le→EG,le_trans→EN,lt_or_ge→EP
section
set_option maxRecDepth 4096
set_option linter.unusedVariables false
namespace Go.Gw
open Go
attribute [local irreducible] loop
theorem QHe:∀ n:Fin 251,(match Qae ((n.val:Nat):Int),Qfn ((n.val:Nat):Int) with
  | some a,some b=>decide (a=b)&&decide (a.size<=20)
  | _,_=>false)=true:=by decide +kernel
theorem QHf {n:Int} (h:JM n=true):DecOk n:=by
 have h:0<=n/\n<=250:=by unfold JM at h;simpa using h
 have:=QHe ⟨n.toNat,by omega⟩;rw [show ((((⟨n.toNat,by omega⟩:Fin 251).val:Nat)):Int)=n by show ((n.toNat:Nat):Int)=n;omega] at this;cases hi:Qae n with
 | none=>rw [hi] at this;cases this
 | some a =>
  cases hd:Qfn n with
  | none=>rw [hi,hd] at this;cases this
  | some b =>
   rw [hi,hd] at this;simp only [Bool.and_eq_true,decide_eq_true_eq] at this;have hb:Ya n=b:=by unfold Ya;rw [hd];rfl
   exact ⟨by rw [hb,hi,this.1],by rw [hb,hd],by rw [hb,<-this.1];exact this.2⟩
theorem QDv {p:Nf} (hp:PlantOk p) {x:Nd} (h:StateOk p x) (hc:DecOk x.Nh):Told x:=by
 refine ⟨by have:=h.sw;have:=hp.w4;omega,by have:=h.tr;have:=hp.t3;omega,hc,fun t ht=>?_⟩;have h1:=h.len ht;have h2:=hp.s8;refine ⟨by omega,?_,fun s hs=>?_⟩
 ·rcases h.un t ht with ⟨_,h3⟩ | ⟨h3,h4⟩
  ·exact Qqu (by omega) (by omega)
  ·exact Qqu (by omega) (by omega)
 ·have:=h.sc t ht s hs;unfold XQ at this;simp at this;exact Qqu (by omega) (by omega)
theorem Quf (p:Nf) (x:Nd) (e:Nj):(XC p x e).Nh=x.Nh:=by
 unfold XC;split<;>rfl
noncomputable def Yx (acc:List Nd×List ByteArray) (y:Nd):List Nd×List ByteArray:=if YQ acc.2 (X7 y)=true then acc else (acc.1++[y],acc.2++[X7 y])
theorem Qfl:∀ (ys:List Nd) (acc:List Nd×List ByteArray),∃ z:List Nd,ys.foldl Yx acc=(acc.1++z,acc.2++z.map X7)/\z.length<=ys.length/\∀ x∈z,x∈ys
 | [],acc=>⟨[],by simp,Ey _,fun x h=>h⟩
 | y::ys,acc=>by
  rw [Ev];unfold Yx;by_cases h:YQ acc.2 (X7 y)=true
  ·rw [if_pos h];obtain ⟨z,h1,h2,h3⟩:=Qfl ys acc;unfold Yx at h1;exact ⟨z,h1,by simp;omega,fun x hx=>Eb _ (h3 x hx)⟩
  ·rw [if_neg h];obtain ⟨z,h1,h2,h3⟩:=Qfl ys (acc.1++[y],acc.2++[X7 y]);unfold Yx at h1;refine ⟨y::z,by rw [h1];simp,by simp;omega,fun x hx=>?_⟩;rcases Ez.1 hx with rfl | hx
   ·exact Ea ..
   ·exact Eb _ (h3 x hx)
def Y7 (p:Nf) (x:Nd):List Nd:=(Yh p x).map (XC p x)
noncomputable def rnd (p:Nf) (new:List Nd) (keys:List ByteArray):List Nd×List ByteArray:=(new.flatMap (Y7 p)).foldl Yx ([],keys)
theorem QDg {p:Nf} (hp:PlantOk p) (x:Nd):(Y7 p x).length<=280:=by
 unfold Y7 Yh;rw [Er];exact EN (List.length_filter_le _ _) (QIe hp)
theorem Qrf {p:Nf} (hp:PlantOk p):∀ new:List Nd,(new.flatMap (Y7 p)).length<=new.length * 280
 | []=>Ey _
 | x::l=>by
  have h1:=Qrf hp l;have h2:=QDg hp x;rw [El,Ee,En,Nat.succ_mul];omega
def Qfh (p:Nf) (c:Int) (l:List Nd):Prop:=∀ x∈l,StateOk p x/\x.Nh=c
theorem Qui {p:Nf} (hp:PlantOk p) {c:Int} {l:List Nd} (h:Qfh p c l):Qfh p c (l.flatMap (Y7 p)):=fun y hy=>by
 obtain ⟨x,hx,hy⟩:=Eq_.1 hy;obtain ⟨e,he,rfl⟩:=Ek.1 hy;obtain ⟨h1,h2⟩:=h x hx;unfold Yh at he;rw [Es] at he;exact ⟨Qew hp h1 (Qra he.1) (of_decide_eq_true he.2),by rw [Quf,h2]⟩
def Qgj (new:List Nd) (keys:List ByteArray):Nat:=2 * (2002 - keys.length)+(if new=[] then 0 else 1)
structure SrchOk (p:Nf) (c:Int) (new:List Nd) (keys:List ByteArray):Prop where
 ok:Qfh p c new
 nl:new.length<=keys.length
 kl:keys.length<=600000
 e:new=[]->keys.length<=2000
theorem SrchOk.rnd {p:Nf} (hp:PlantOk p) {c:Int} {new:List Nd} {keys:List ByteArray} (h:SrchOk p c new keys) (hn:new≠[]) (hk:keys.length<=2000):SrchOk p c (rnd p new keys).1 (rnd p new keys).2/\Qgj (Gw.rnd p new keys).1 (Gw.rnd p new keys).2 < Qgj new keys/\∃ z,Gw.rnd p new keys=(z,keys++z.map X7)/\z.length<=560000:=by
 obtain ⟨z,h1,h2,h3⟩:=Qfl (new.flatMap (Y7 p)) ([],keys);have h4:Gw.rnd p new keys=(z,keys++z.map X7):=by unfold Gw.rnd;rw [h1];simp
 have h5:=Qrf hp new;have h6:=h.nl;have h7:z.length<=560000:=by omega
 rw [h4];refine ⟨⟨fun x hx=>Qui hp h.ok x (h3 x hx),by simp,by simp;omega,fun e=>by subst e;simpa using hk⟩,?_,z,rfl,h7⟩;unfold Qgj;rw [if_neg hn];by_cases hz:z=[]
 ·subst hz;simp
 ·rw [if_neg hz];have:0 < z.length:=Ex.2 hz;simp;omega
/-! ### By the reference -/
theorem Qxu {p:Nf} (l:List Nd) (k:Nat) (hk:k < l.length) (acc:List Nd×List ByteArray):((l.take (k+1)).flatMap (Y7 p)).foldl Yx acc=(Y7 p l[k]).foldl Yx (((l.take k).flatMap (Y7 p)).foldl Yx acc):=by
 rw [<-Qey l k hk,List.flatMap_append,List.foldl_append];simp
/-! ### The way -/
def Y5 (to:Nx) (x:Nd):Bool:=match x.Na[to.e0.toNat]? with
 | some t=>decide (to.e1∈t.Nc.take t.Nm.toNat)
 | none=>false
theorem QEb {p:Nf} {x:Nd} (hx:StateOk p x) {t:Nl} (ht:t∈x.Na):cut t.Nc 0 t.Nm=some (t.Nc.take t.Nm.toNat)/\(t.Nc.take t.Nm.toNat).length<=t.Nc.length:=by
 refine ⟨?_,by rw [ED];omega⟩;unfold cut;rcases hx.un t ht with ⟨h1,h2⟩ | ⟨h1,h2⟩
 ·rw [if_pos (by rw [h1,h2];simp)];rfl
 ·rw [if_pos (by omega)];rfl
theorem Quy {p:Nf} {x:Nd} (hx:StateOk p x) {n:Int} (hn:Zt p n=true):∃ k:Nat,n=(k:Int)/\k < x.Na.length:=by
 unfold Zt at hn;simp only [Bool.and_eq_true,decide_eq_true_eq] at hn;have:=hx.tr;exact ⟨n.toNat,by omega,by omega⟩
noncomputable def ZG (p:Nf) (to:Nx):Nat->List Nd->List ByteArray->Nat->Int×Bool
 | 0,_,_,_=>(0,false)
 | n+1,new,keys,k=>if new=[] then (-1,true) else if new.any (Y5 to)=true then ((k:Int),true) else if 2000 < keys.length then (0,false) else ZG p to n (rnd p new keys).1 (rnd p new keys).2 (k+1)
theorem QEj {p:Nf} {to:Nx}:∀ (n:Nat) (new:List Nd) (keys:List ByteArray) (k:Nat) {m:Nat},ZG p to n new keys k=((m:Int),true)->m<=k+n
 | 0,new,keys,k,m,h=>by unfold ZG at h;cases (Prod.mk.inj h).2
 | n+1,new,keys,k,m,h=>by
  unfold ZG at h;by_cases h1:new=[]
  ·rw [if_pos h1] at h;have:=(Prod.mk.inj h).1;omega
  rw [if_neg h1] at h;by_cases h2:new.any (Y5 to)=true
  ·rw [if_pos h2] at h;have:=(Prod.mk.inj h).1;omega
  rw [if_neg h2] at h;by_cases h3:2000 < keys.length
  ·rw [if_pos h3] at h;cases (Prod.mk.inj h).2
  rw [if_neg h3] at h;have:=QEj n _ _ _ h;omega
def JG:Nat:=5000
theorem QUg {p:Nf} {x:Nd} (hx:StateOk p x):SrchOk p x.Nh [x] [X7 x]:=⟨fun y hy=>by simp at hy;subst hy;exact ⟨hx,rfl⟩,Ey _,by simp,fun h=>by cases h⟩
theorem QNu (x:Nd):Qgj [x] [X7 x] < JG:=by unfold Qgj JG;simp
end Go.Gw

end
section
set_option maxRecDepth 4096
set_option linter.unusedVariables false
namespace Go.Gw
open Go
attribute [local irreducible] loop
def Run (p:Nf):Nd->List Nj->Nd->Prop
 | x,[],y=>x=y
 | x,e::l,y=>e∈Yh p x/\Run p (XC p x e) l y
theorem Run.snoc {p:Nf}:∀ {l:List Nj} {x z:Nd} {e:Nj},Run p x l z->e∈Yh p z->Run p x (l++[e]) (XC p z e)
 | [],x,z,e,h,he=>by cases h;exact ⟨he,rfl⟩
 | a::l,x,z,e,h,he=>⟨h.1,Run.snoc h.2 he⟩
theorem Qjl {p:Nf} {x:Nd} {e:Nj} (h:e∈Yh p x):ZB p e=0/\Zc p x e=0:=by
 unfold Yh at h;rw [Es,decide_eq_true_eq] at h;exact ⟨Qra h.1,h.2⟩
theorem QId {p:Nf} {x:Nd} {e:Nj} (h1:ZB p e=0):evE p x e=Zc p x e:=by
 unfold evE;rw [if_pos h1]
theorem Run.ok {p:Nf} (hp:PlantOk p):∀ {l:List Nj} {x y:Nd},StateOk p x->Run p x l y->StateOk p y
 | [],x,y,hx,h=>by cases h;exact hx
 | e::l,x,y,hx,h=>Run.ok hp (Qew hp hx (Qjl h.1).1 (Qjl h.1).2) h.2
def Qfv (c:List Ny):List Nj:=(c.dropLast.map Ny.Nv).reverse
def NodeOk (p:Nf) (x0:Nd) (d:Nat) (y:Nd) (o:Option Nk):Prop:=∃ nd,o=some nd/\nd.line=some ⟨p,y⟩/\Run p x0 (Qfv (Zn o)) y/\(Qfv (Zn o)).length=d
def PathsOk (p:Nf) (x0:Nd) (d:Nat) (ns:List (Option Nk)):Prop:=∀ o∈ns,∃ y,NodeOk p x0 d y o
theorem Qwv {v:Option Np} {e:Nj} {o:Option Nk} (h:o≠none):Qfv (Zn (some (Nk.mk v (Zn o) e)))=Qfv (Zn o)++[e]:=by
 cases o with
 | none=>exact absurd rfl h
 | some d=>simp [Qfv,Zn]
theorem NodeOk.next {p:Nf} {x0:Nd} {d:Nat} {y:Nd} {o:Option Nk} (h:NodeOk p x0 d y o) {e:Nj} (he:e∈Yh p y):NodeOk p x0 (d+1) (XC p y e) (some (Nk.mk (some ⟨p,XC p y e⟩) (Zn o) e)):=by
 obtain ⟨nd,rfl,h2,h3,h4⟩:=h;refine ⟨_,rfl,rfl,?_,?_⟩
 ·rw [Qwv (by simp)];exact h3.snoc he
 ·rw [Qwv (by simp),Ee,h4];rfl
theorem PathsOk.snoc {p:Nf} {x0:Nd} {d:Nat} {ns:List (Option Nk)} (h:PathsOk p x0 d ns) {y:Nd} {o:Option Nk} (ho:NodeOk p x0 d y o):PathsOk p x0 d (ns++[o]):=fun q hq=>by
 rcases Eo.1 hq with hq | hq
 ·exact h q hq
 ·rw [Ed.1 hq];exact ⟨y,ho⟩
def lns (ns:List (Option Nk)):List (Option Np):=ns.map fun o=>o.bind Nk.line
def LinesOf (p:Nf) (ns:List (Option Nk)) (xs:List Nd):Prop:=lns ns=xs.map fun x=>some ⟨p,x⟩
theorem LinesOf.len {p:Nf} {ns:List (Option Nk)} {xs:List Nd} (h:LinesOf p ns xs):ns.length=xs.length:=by
 have:=congrArg List.length h;simpa [lns] using this
theorem LinesOf.snoc {p:Nf} {ns:List (Option Nk)} {xs:List Nd} (h:LinesOf p ns xs) {nd:Nk} {y:Nd} (hn:nd.line=some ⟨p,y⟩):LinesOf p (ns++[some nd]) (xs++[y]):=by
 unfold LinesOf lns at h ⊢;rw [EF,EF,h];simp [hn]
theorem QDa {p:Nf} (hp:PlantOk p):∀ {ns:List (Option Nk)} {xs:List Nd},LinesOf p ns xs->(∀ x∈xs,StateOk p x)->Qdg ns=some (xs.map fun x=>Y6 p x (ZW p))
 | [],xs,h,_=>by
  have:xs=[]:=Ef.1 h.len.symm;subst this;rfl
 | o::ns,[],h,_=>by have:=h.len;simp at this
 | o::ns,x::xs,h,hok=>by
  unfold LinesOf lns at h;rw [Eh,Eh] at h;obtain ⟨h1,h2⟩:=Em.inj h;cases o with
  | none=>cases h1
  | some nd =>
   have h1:nd.line=some ⟨p,x⟩:=h1;unfold Qdg;rw [Qj,h1,QRl hp (hok x (Ea ..)),Qj,QDa hp (ns:=ns) (xs:=xs) h2 (fun y hy=>hok y (Eb _ hy))];rfl
theorem QCz (p:Nf) (x:Nd):Y6 p x (ZW p)=(Yh p x).map fun e=>Nr.mk e (some ⟨p,XC p x e⟩):=rfl
theorem PathsOk.at {p:Nf} {x0:Nd} {d:Nat} {ns:List (Option Nk)} (h:PathsOk p x0 d ns) {xs:List Nd} (hl:LinesOf p ns xs) {i:Nat} (hi:i < xs.length) (hn:i < ns.length):NodeOk p x0 d xs[i] ns[i]:=by
 obtain ⟨y,nd,h1,h2,h3⟩:=h _ (Ei hn);have h4:=congrArg (fun l:List (Option Np)=>l[i]?) hl;simp only [lns,EA,Ec hi,Ec hn,Option.map_some,h1,Qj,h2] at h4;have h5:y=xs[i]:=by
  have:=Option.some.inj (Option.some.inj h4);exact congrArg Np.Nd this
 subst h5;exact ⟨nd,h1,h2,h3⟩
theorem QLh {p:Nf} (hp:PlantOk p) {x:Nd} (hok:StateOk p x) (hc:DecOk x.Nh) {was:List (Option Nk)} {i:Nat} (hi:i < was.length) (acc0:List Nd×List ByteArray) (ns0:List (Option Nk)) (hl:LinesOf p ns0 acc0.1) (h8:acc0.1.length<=800000) {x0:Nd} {d:Nat} (hN:NodeOk p x0 d x was[i]) (hP:PathsOk p x0 (d+1) ns0) :
  ∃ ns1,loop (Qmo (Y6 p x (ZW p)) was i) (0,ns0,acc0.2)=some (ns1,((Y7 p x).foldl Yx acc0).2)/\LinesOf p ns1 ((Y7 p x).foldl Yx acc0).1/\PathsOk p x0 (d+1) ns1:=by
 have hel:(Yh p x).length<=280:=by have:=QDg hp x;unfold Y7 at this;rwa [Er] at this
 have key:Runs (loop (Qmo (Y6 p x (ZW p)) was i) (0,ns0,acc0.2)) (fun r=>r.2=((Y7 p x).foldl Yx acc0).2/\LinesOf p r.1 ((Y7 p x).foldl Yx acc0).1/\PathsOk p x0 (d+1) r.1):=by
  refine Runs.loop (fun s=>∃ (k:Nat) (ns:List (Option Nk)),k<=(Yh p x).length/\s=((k:Int),ns,((((Yh p x).take k).map (XC p x)).foldl Yx acc0).2)/\LinesOf p ns ((((Yh p x).take k).map (XC p x)).foldl Yx acc0).1/\PathsOk p x0 (d+1) ns) (fun s=>(Yh p x).length - s.1.toNat) ⟨0,ns0,EG _,rfl,hl,hP⟩ ?_;rintro _ ⟨k,ns,hk,rfl,hln,hPn⟩;obtain ⟨z,hz,hzl,hzm⟩:=Qfl (((Yh p x).take k).map (XC p x)) acc0;have hzl2:z.length<=280:=EN hzl (by rw [Er,ED];omega);unfold Qmo;have hsl:(Y6 p x (ZW p)).length=(Yh p x).length:=by rw [QCz,Er]
  by_cases hlt:k < (Yh p x).length
  ·have hm:(Yh p x).length - (w64 ((k:Int)+1)).toNat < (Yh p x).length - ((k:Nat):Int).toNat:=by rw [Xj k (by omega)];simp;omega
   have hmem:=Ei hlt;have hmem2:(Yh p x)[k]∈ZW p/\decide (Zc p x (Yh p x)[k]=0)=true:=Es.1 hmem;have hst:=of_decide_eq_true hmem2.2;have hy:=Qew hp hok (Qra hmem2.1) hst;have hT:=QDv hp hy (by rw [Quf];exact hc);have hnext:((((Yh p x).take (k+1)).map (XC p x)).foldl Yx acc0)=Yx ((((Yh p x).take k).map (XC p x)).foldl Yx acc0) (XC p x (Yh p x)[k]):=by
    rw [<-Qex (Yh p x) (XC p x) k hlt,List.foldl_append];rfl
   have hidx:idx (Y6 p x (ZW p)) (k:Int)=some (Nr.mk (Yh p x)[k] (some ⟨p,XC p x (Yh p x)[k]⟩)):=by
    rw [Xh?,QCz,EA,Ec hlt];rfl
   have hNy:=hN.next hmem;generalize hgy:XC p x (Yh p x)[k]=y at hy hT hnext hidx hNy;rw [hz] at hnext hln ⊢;refine Runs.bif_t (by rw [hsl];exact XA hlt) (Ep hidx (Ep rfl (Ep (Qxx hT) (Runs.bif (fun hn=>?_) (fun hn=>?_)))))
   ·have hn2:YQ (acc0.2++z.map X7) (X7 y)=false:=by simpa using hn
    have hll:=hln.len;refine Ep (Xh hi) (Ep (Zm (by simp at hll ⊢;omega)) (Et ⟨⟨k+1,ns++[some (Nk.mk (some ⟨p,y⟩) (Zn was[i]) (Yh p x)[k])],by omega,?_,?_,hPn.snoc hNy⟩,hm⟩))
    ·rw [hnext,Xj k (by omega)];unfold Yx ZM;rw [if_neg (by rw [hn2];exact Ej),if_neg (by rw [hn2];exact Ej)]
    ·rw [hnext];unfold Yx;rw [if_neg (by rw [hn2];exact Ej)];exact hln.snoc rfl
   ·have hn2:YQ (acc0.2++z.map X7) (X7 y)=true:=by simpa using hn
    refine Et ⟨⟨k+1,ns,by omega,?_,?_⟩,hm⟩
    ·rw [hnext,Xj k (by omega)];unfold Yx;rw [if_pos hn2]
    ·rw [hnext];unfold Yx;rw [if_pos hn2];exact ⟨hln,hPn⟩
  ·have:k=(Yh p x).length:=by omega
   subst this;refine Runs.bif_f (by rw [hsl];exact XE _) (Et ?_);rw [List.take_length] at hln ⊢;exact ⟨rfl,hln,hPn⟩
 obtain ⟨⟨ns1,keys1⟩,h1,h2,h3⟩:=key;exact ⟨ns1,by rw [h1];dsimp only at h2;rw [h2],h3⟩
theorem QLi {p:Nf} (hp:PlantOk p) {c:Int} (hc:DecOk c) {ns:List (Option Nk)} {xs:List Nd} (hl:LinesOf p ns xs) (hok:Qfh p c xs) (h2:xs.length<=2000) (keys:List ByteArray) {x0:Nd} {d:Nat} (hP:PathsOk p x0 d ns) :
  ∃ ns1,loop (Qmp (xs.map fun x=>Y6 p x (ZW p)) ns) (0,[],keys)=some (ns1,(rnd p xs keys).2)/\LinesOf p ns1 (rnd p xs keys).1/\PathsOk p x0 (d+1) ns1:=by
 have hlen:=hl.len;have key:Runs (loop (Qmp (xs.map fun x=>Y6 p x (ZW p)) ns) (0,[],keys)) (fun r=>r.2=(rnd p xs keys).2/\LinesOf p r.1 (rnd p xs keys).1/\PathsOk p x0 (d+1) r.1):=by
  refine Runs.loop (fun s=>∃ (k:Nat) (ms:List (Option Nk)),k<=xs.length/\s=((k:Int),ms,(((xs.take k).flatMap (Y7 p)).foldl Yx ([],keys)).2)/\LinesOf p ms (((xs.take k).flatMap (Y7 p)).foldl Yx ([],keys)).1/\PathsOk p x0 (d+1) ms) (fun s=>xs.length - s.1.toNat) ⟨0,[],EG _,rfl,rfl,fun o ho=>by cases ho⟩ ?_;rintro _ ⟨k,ms,hk,rfl,hln,hPm⟩;unfold Qmp;have hml:(xs.map fun x=>Y6 p x (ZW p)).length=xs.length:=by simp
  by_cases hlt:k < xs.length
  ·have hm:xs.length - (w64 ((k:Int)+1)).toNat < xs.length - ((k:Nat):Int).toNat:=by rw [Xj k (by omega)];simp;omega
   obtain ⟨h3,h4⟩:=hok _ (Ei hlt);obtain ⟨z,hz,hzl,_⟩:=Qfl ((xs.take k).flatMap (Y7 p)) ([],keys);have hz2:=Qrf hp (xs.take k);have hz3:(xs.take k).length<=2000:=by simp;omega
   obtain ⟨ns1,h5,h6,h7⟩:=QLh hp h3 (by rw [h4];exact hc) (was:=ns) (i:=k) (by omega) (((xs.take k).flatMap (Y7 p)).foldl Yx ([],keys)) ms hln (by rw [hz];simp;omega) (hP.at hl hlt (by omega)) hPm;refine Runs.bif_t (by rw [hml];exact XA hlt) (Ep (b:=Y6 p xs[k] (ZW p)) (by rw [Xh?,EA,Ec hlt];rfl) (Ep h5 (Et ⟨⟨k+1,ns1,by omega,?_,?_,h7⟩,hm⟩)))
   ·rw [Qxu xs k hlt,Xj k (by omega)]
   ·rw [Qxu xs k hlt];exact h6
  ·have:k=xs.length:=by omega
   subst this;refine Runs.bif_f (by rw [hml];exact XE _) (Et ?_);rw [List.take_length] at hln ⊢;exact ⟨rfl,hln,hPm⟩
 obtain ⟨⟨ns1,keys1⟩,h1,h2,h3⟩:=key;exact ⟨ns1,by rw [h1];dsimp only at h2;rw [h2],h3⟩
/-! ### The way back -/
theorem Qwi:∀ (r:List Ny) (nd:Nk),nd.from_=r->∀ (out:List Nj),out.length+r.length<=1000000->loop Qgb (some nd,out)=some (out++(Zn (some nd)).dropLast.map Ny.Nv)
 | [],nd,h,out,hl=>by
  refine (Jv (o:=out) ?_).trans ?_
  ·unfold Qgb;dsimp only;rw [Qj,h];rfl
  ·simp [Zn,h]
 | a::r,nd,h,out,hl=>by
  have hl:out.length+(r.length+1)<=1000000:=hl;have hs:Qgb (some nd,out)=some (.inl (some (Nk.mk a.line r a.Nv),out++[nd.Nv])):=by
   unfold Qgb;dsimp only;rw [Qj,h];show Option.bind (app out [nd.Nv]) _=_;rw [Zm (by simp;omega)];rfl
  rw [JP hs,Qwi r _ rfl _ (by simp;omega)];simp [Zn,h]
theorem QSm (l:List Nj) (hl:l.length<=1000000):Qkb l=some l.reverse:=by
 refine Runs.eq ?_;unfold Qkb;have e1:w64 ((l.length:Int) - 1)=(l.length:Int) - 1:=YD (by omega);rw [e1];refine Runs.callR (R:=fun x=>x=l.reverse) (Runs.loop (fun s=>∃ i:Nat,s.2.1=(i:Int)/\s.2.1+s.2.2+1=(l.length:Int)/\s.1.length=l.length/\2 * i<=l.length/\∀ k,k < l.length->s.1[k]?=if k < i\/l.length<=k+i then l[l.length - 1 - k]? else l[k]?) (fun s=>(s.2.2 - s.2.1+1).toNat) ⟨0,rfl,by show (0:Int)+((l.length:Int) - 1)+1=_;omega,rfl,by omega,fun k hk=>by rw [if_neg (by omega)]⟩ ?_) ?_
 rotate_left
 ·rintro _ rfl;exact Et rfl
 rintro ⟨ys,i',j⟩ ⟨i,rfl,h2,h3,h4,h5⟩;dsimp only at h2 h3 h5;unfold QCu;by_cases hij:(i:Int) < j
 ·have hj:j=((l.length - 1 - i:Nat):Int):=by omega
  subst hj;have hi1:i < ys.length:=by omega
  have hj1:l.length - 1 - i < ys.length:=by omega
  refine Runs.bif_t (decide_eq_true hij) (Ep (Xh hj1) (Ep (Xh hi1) (Ep (Xh hi1) (Ep (b := (ys.set ((i:Nat):Int).toNat ys[l.length - 1 - i])[l.length - 1 - i]'(by simp;omega)) (Xh (by simp;omega)) (Et ⟨⟨i+1, Xj i (by omega), ?_, by simp [h3], by omega, fun k hk => ?_⟩, ?_⟩)))))
  ·show w64 ((i:Int)+1)+w64 (((l.length - 1 - i:Nat):Int) - 1)+1=_;rw [Xj i (by omega),YD (by omega)];omega
  ·rw [Eg,Eg,List.getElem?_set,List.getElem?_set];have hyi:=h5 i (by omega);have hyj:=h5 (l.length - 1 - i) (by omega);rw [if_neg (by omega),Ec hi1] at hyi;rw [if_neg (by omega),Ec hj1] at hyj;by_cases e1:l.length - 1 - i=k
   ·subst e1;rw [if_pos rfl,if_pos (by simp;omega),if_pos (by omega),hyi];congr 1;omega
   ·rw [if_neg e1];by_cases e2:i=k
    ·subst e2;rw [if_pos rfl,if_pos (by omega),if_pos (by omega),hyj]
    ·rw [if_neg e2,h5 k hk];by_cases e3:k < i\/l.length<=k+i
     ·rw [if_pos e3,if_pos (by omega)]
     ·rw [if_neg e3,if_neg (by omega)]
  ·show (w64 (((l.length - 1 - i:Nat):Int) - 1) - w64 ((i:Int)+1)+1).toNat < (((l.length - 1 - i:Nat):Int) - (i:Int)+1).toNat;rw [Xj i (by omega),YD (by omega)];omega
 ·refine Runs.bif_f (decide_eq_false hij) (Et ?_);show ys=l.reverse;refine List.ext_getElem? fun k=>?_;by_cases hk:k < l.length
  ·rw [h5 k hk,List.getElem?_reverse hk];by_cases e:k < i\/l.length<=k+i
   ·rw [if_pos e]
   ·rw [if_neg e];congr 1;omega
  ·rw [EH (by omega),EH (by simp;omega)]
theorem QLm {p:Nf} (hp:PlantOk p) {x:Nd} (hx:StateOk p x) {to:Nx} (hn:Zt p to.e0=true):∃ t,idx x.Na to.e0=some t/\cut t.Nc 0 t.Nm=some (t.Nc.take t.Nm.toNat)/\(t.Nc.take t.Nm.toNat).length < 1000000/\Y5 to x=decide (to.e1∈t.Nc.take t.Nm.toNat):=by
 obtain ⟨k,h1,h2⟩:=Quy hx hn;obtain ⟨h3,h4⟩:=QEb hx (Ei h2);have h5:=(hx.s hp).ch _ (Ei h2);refine ⟨_,by rw [h1,Xh h2],h3,by omega,?_⟩;unfold Y5;rw [h1,Eg,Ec h2]
theorem Qxt {p:Nf} (hp:PlantOk p) {x0:Nd} {d:Nat} (hd:d<=10000) {to:Nx} (ht:Zt p to.e0=true) {ns:List (Option Nk)} {xs:List Nd} (hl:LinesOf p ns xs) (hP:PathsOk p x0 d ns) (hok:∀ x∈xs,StateOk p x) (hx:xs.length<=1000000) :
    ∀ j i:Nat,i+j=xs.length->∃ o,loop (Qii to ns) (i:Int)=some o/\(((xs.drop i).any (Y5 to)=false/\o=.inr ())\/((xs.drop i).any (Y5 to)=true/\∃ l y,o=.inl (.inr (.inl (l,0)))/\Run p x0 l y/\l.length=d/\StateOk p y/\Y5 to y=true))
  | 0,i,hij=>by
    have:i=ns.length:=by have:=hl.len;omega
    subst this;refine ⟨.inr (),Jv ?_,.inl ⟨?_,rfl⟩⟩
    · unfold Qii;rw [XE];rfl
    · rw [hl.len,List.drop_length];rfl
  | j+1,i,hij=>by
    have hi:i < xs.length:=by omega
    have hn:i < ns.length:=by have:=hl.len;omega
    have hx1:=hok _ (Ei hi);obtain ⟨nd,h1,h2,h3,h4⟩:=hP.at hl hi hn;obtain ⟨t,t1,t2,t3,t4⟩:=QLm hp hx1 ht;rw [List.drop_eq_getElem_cons hi,List.any_cons];have hstep:∀ b:Bool,decide (to.e1∈t.Nc.take t.Nm.toNat)=b->Qii to ns (i:Int)=(bif !b then some (.inl (w64 ((i:Int)+1))) else Option.bind (loop Qgb (ns[i],[])) fun x=>Option.bind (Qkb x) fun r=>some (.inr (.inl (.inr (.inl (r,0)))))):=fun b hb=>by
      unfold Qii;rw [XA hn,cond_true,Xh hn,Qj]
      conv=>lhs;rw [h1]
      rw [Qj,h2,Qj];dsimp only;rw [t1,Qj,t2,Qj,Qed _ _ t3,Qj,hb,h1]
    by_cases hq:Y5 to xs[i]=true
    · rw [t4] at hq;have hb:=hstep true hq;have hlen:(Zn (some nd)).dropLast.length=d:=by
        rw [h1] at h4;simpa [Qfv] using h4
      have hfl:nd.from_.length=d:=by simpa [Zn] using hlen
      rw [h1,Qwi nd.from_ nd rfl [] (by simp;omega),Qj,Ew,QSm _ (by rw [Er,hlen];omega)] at hb;refine ⟨_,Jv hb,.inr ⟨by rw [t4,hq];rfl,_,xs[i],rfl,?_,?_,hx1,by rw [t4];exact hq⟩⟩
      · rw [h1] at h3;exact h3
      · rw [h1] at h4;exact h4
    · have hq2:Y5 to xs[i]=false:=by simpa using hq
      rw [t4] at hq2;have hb:=hstep false hq2;rw [Bool.not_false,cond_true,Xj i (by omega)] at hb;obtain ⟨o,h5,h6⟩:=Qxt hp hd ht hl hP hok hx j (i+1) (by omega);refine ⟨o,by rw [JP hb];exact h5,?_⟩;rw [t4,hq2,Bool.false_or];exact h6
theorem QLn {p:Nf} (hp:PlantOk p) {c:Int} (hc:DecOk c) {x0:Nd} {to:Nx} (ht:Zt p to.e0=true):∀ (n:Nat) (ns:List (Option Nk)) (xs:List Nd) (keys:List ByteArray) (d:Nat),LinesOf p ns xs->PathsOk p x0 d ns->SrchOk p c xs keys->Qgj xs keys < n->d+n<=10000 ->
    ∃ o,loop (Qei to) (ns,keys)=some o/\((ZG p to n xs keys d=(-1,true)/\o=.inr ())\/(ZG p to n xs keys d=(0,false)/\o=.inl ([],8))\/∃ l y,ZG p to n xs keys d=((l.length:Int),true)/\o=.inl (l,0)/\Run p x0 l y/\StateOk p y/\Y5 to y=true):=by
  intro n
  induction n with
  | zero=>intro ns xs keys d _ _ _ h;omega
  | succ n ih =>
    intro ns xs keys d hl hP h hmeas hd;have hlen:=hl.len;have hnl:=h.nl;have hkl:=h.kl;unfold ZG;by_cases hnil:xs=[]
    · rw [if_pos hnil];subst hnil;refine ⟨.inr (),Jv ?_,.inl ⟨rfl,rfl⟩⟩;unfold Qei;dsimp only;rw [hlen];rfl
    · rw [if_neg hnil];have hpos:0 < xs.length:=Ex.2 hnil;obtain ⟨o,h1,h2⟩:=Qxt hp (by omega) ht hl hP (fun x hx=>(h.ok x hx).1) (by omega) xs.length 0 (by omega);rw [List.drop_zero] at h2;rw [show ((0:Nat):Int)=0 from rfl] at h1;rcases h2 with ⟨h2,rfl⟩ | ⟨h2,l,y,rfl,h3,h4,h5,h6⟩
      · rw [if_neg (by rw [h2];exact Ej)];by_cases hbig:2000 < keys.length
        · rw [if_pos hbig];refine ⟨.inl ([],8),Jv ?_,.inr (.inl ⟨rfl,rfl⟩)⟩;unfold Qei;dsimp only;rw [decide_eq_true (show (0:Int) < (ns.length:Int) by omega),cond_true,h1,Qj];show (bif _ then _ else _)=_;rw [decide_eq_true (show (2000:Int) < (keys.length:Int) by omega),cond_true]
        · rw [if_neg hbig];obtain ⟨r1,r2,z,hz,hzl⟩:=h.rnd hp hnil (by omega);obtain ⟨ns1,g1,g2,g3⟩:=QLi hp hc hl h.ok (by omega) keys hP;have hs:Qei to (ns,keys)=some (.inl (ns1,(rnd p xs keys).2)):=by
            unfold Qei;dsimp only;rw [decide_eq_true (show (0:Int) < (ns.length:Int) by omega),cond_true,h1,Qj];show (bif _ then _ else _)=_;rw [decide_eq_false (show ¬ (2000:Int) < (keys.length:Int) by omega),cond_false];unfold mk;rw [if_pos (by omega),Qj];unfold Qjh;rw [show ns.isEmpty=false by cases ns with
              | nil=>rw [List.length_nil] at hlen;omega
              | cons a l=>rfl,cond_false,QDa hp hl (fun x hx=>(h.ok x hx).1),Qj,g1];rfl
          rw [JP hs];exact ih ns1 _ _ (d+1) g2 g3 r1 (by omega) (by omega)
      · rw [if_pos h2];refine ⟨.inl (l,0),Jv ?_,.inr (.inr ⟨l,y,by rw [h4],rfl,h3,h5,h6⟩)⟩;unfold Qei;dsimp only;rw [decide_eq_true (show (0:Int) < (ns.length:Int) by omega),cond_true,h1];rfl
theorem Qyy {p:Nf} (hS:PlantS p) {x:Nd} (hX:StateS x) (h0:Z0 p x=0) {to:Nx} (h1:Zt p to.e0=true) (h2:XQ p to.e1=true) :
  ∃ l e,Qij p x to=some (l,e)/\((ZG p to JG [x] [X7 x] 0=(-1,true)/\l=[]/\e=12)\/(ZG p to JG [x] [X7 x] 0=(0,false)/\l=[]/\e=8)\/(ZG p to JG [x] [X7 x] 0=((l.length:Int),true)/\e=0/\∃ y,Run p x l y/\StateOk p y/\Y5 to y=true)):=by
 obtain ⟨hp,hx,hp0⟩:=QBh h0;have hc:=QHf hx.cnt;unfold Qij;rw [Qji hS hX,Qj,if_pos h0,QDx hS,Qj,Qoq hS,Qj,h1,h2,show (bif true then (0:Int) else 6)=0 from rfl,ZL _ (by simp),Qj];rw [show ZX [((some (Np.mk p x),(0:Int)):Option Np×Int).2,0,0]=0 from rfl,decide_eq_true rfl,Bool.not_true,cond_false];unfold Qna;dsimp only;rw [Qj,Qxx (QDv hp hx hc),Qj,Qj];dsimp only;obtain ⟨o,g1,g2⟩:=QLn hp hc (x0:=x) h1 JG [some (Nk.mk (some ⟨p,x⟩) [] (Nj.mk 0 0 0))] [x] [X7 x] 0 rfl (fun o ho=>by rw [Ed.1 ho];exact ⟨x,_,rfl,rfl,rfl,rfl⟩) (QUg hx) (QNu x) (by unfold JG;omega);rw [show ZM [] (X7 x)=[X7 x] from rfl,g1,Qj];rcases g2 with ⟨g2,rfl⟩ | ⟨g2,rfl⟩ | ⟨l,y,g2,rfl,g3⟩
 ·exact ⟨_,_,rfl,.inl ⟨g2,rfl,rfl⟩⟩
 ·exact ⟨_,_,rfl,.inr (.inl ⟨g2,rfl,rfl⟩)⟩
 ·exact ⟨_,_,rfl,.inr (.inr ⟨g2,rfl,y,g3⟩)⟩
end Go.Gw

end
section
set_option maxRecDepth 4096
set_option linter.unusedVariables false
namespace Go.Gw
open Go
attribute [local irreducible] loop
def XM (s:ByteArray):List Int:=s.data.toList.map fun b=>((b.toNat:Nat):Int)
theorem Qht (a b:ByteArray):XM (a++b)=XM a++XM b:=Qlf a b
theorem QGm {a b:ByteArray} (h:XM a=XM b):a=b:=by
 have h:bl a=bl b:=h;rw [<-Qnn a,<-Qnn b,h]
theorem Qkn {c:Int}:∀ {a b X Y:List Int},c∉a->c∉b->(∀ z Z,X=z::Z->z=c)->(∀ z Z,Y=z::Z->z=c)->a++X=b++Y->a=b/\X=Y
 | [],[],X,Y,_,_,_,_,h=>⟨rfl,h⟩
 | [],y::b,X,Y,_,hb,hX,_,h=>by
  exact absurd (hX y (b++Y) h▸Ea ..) hb
 | x::a,[],X,Y,ha,_,_,hY,h=>by
  exact absurd (hY x (a++X) h.symm▸Ea ..) ha
 | x::a,y::b,X,Y,ha,hb,hX,hY,h=>by
  obtain ⟨h1,h2⟩:=Em.inj h;obtain ⟨h3,h4⟩:=Qkn (fun q=>ha (Eb _ q)) (fun q=>hb (Eb _ q)) hX hY h2;exact ⟨by rw [h1,h3],h4⟩
theorem Qlg (c:UInt8):∀ (l:List ByteArray) (a:ByteArray),XM (l.foldl (fun r x=>r++⟨#[c]⟩++x) a)=XM a++l.flatMap fun x=>(c.toNat:Int)::XM x
 | [],a=>by simp
 | x::l,a=>by
  rw [Ev,Qlg c l,Qht,Qht,El,List.append_assoc,List.append_assoc];rfl
theorem Qda {c:Int} (l:List ByteArray):∀ z Z,(l.flatMap fun x=>c::XM x)=z::Z->z=c:=fun z Z h=>by
 cases l with
 | nil=>cases h
 | cons x l=>rw [El] at h;exact (Em.inj h).1.symm
theorem Qyw {c:UInt8}:∀ {l m:List ByteArray} {a b:ByteArray},(∀ s∈a::l,(c.toNat:Int)∉XM s)->(∀ s∈b::m,(c.toNat:Int)∉XM s)->XM a++(l.flatMap fun x=>(c.toNat:Int)::XM x)=XM b++(m.flatMap fun x=>(c.toNat:Int)::XM x)->(a::l).map XM=(b::m).map XM
 | [],[],a,b,ha,hb,h=>by
  obtain ⟨h1,_⟩:=Qkn (ha a (Ea ..)) (hb b (Ea ..)) (Qda _) (Qda _) h;simp [h1]
 | x::l,[],a,b,ha,hb,h=>by
  obtain ⟨_,h2⟩:=Qkn (ha a (Ea ..)) (hb b (Ea ..)) (Qda _) (Qda _) h;rw [El] at h2;cases h2
 | [],y::m,a,b,ha,hb,h=>by
  obtain ⟨_,h2⟩:=Qkn (ha a (Ea ..)) (hb b (Ea ..)) (Qda _) (Qda _) h;rw [El] at h2;cases h2
 | x::l,y::m,a,b,ha,hb,h=>by
  obtain ⟨h1,h2⟩:=Qkn (ha a (Ea ..)) (hb b (Ea ..)) (Qda _) (Qda _) h;rw [El,El,EE,EE] at h2;have:=Qyw (fun s hs=>ha s (Eb _ hs)) (fun s hs=>hb s (Eb _ hs)) (Em.inj h2).2;rw [Eh,h1,this];rfl
theorem Qyu {c:UInt8} {l m:List ByteArray} (hl:∀ s∈l,(c.toNat:Int)∉XM s) (hm:∀ s∈m,(c.toNat:Int)∉XM s) (h1:l≠[]) (h2:m≠[]) (h:Ze ⟨#[c]⟩ l=Ze ⟨#[c]⟩ m):l.map XM=m.map XM:=by
 cases l with
 | nil=>exact absurd rfl h1
 | cons a l =>
  cases m with
  | nil=>exact absurd rfl h2
  | cons b m =>
   have:=congrArg XM h;unfold Ze at this;rw [Qlg,Qlg] at this;exact Qyw hl hm this
theorem dig:∀ n:Fin 10,XM (Ya ((n.val:Nat):Int))=[48+((n.val:Nat):Int)]:=by decide +kernel
theorem Qhw {n:Int} (h0:0<=n) (h:n < 10):XM (Ya n)=[48+n]:=by
 have:=dig ⟨n.toNat,by omega⟩;rw [show ((((⟨n.toNat,by omega⟩:Fin 10).val:Nat)):Int)=n by show ((n.toNat:Nat):Int)=n;omega] at this;exact this
theorem QGx:∀ n:Fin 251,decide ((32:Int)∉XM (Ya ((n.val:Nat):Int)))=true:=by decide +kernel
theorem QGy {n:Int} (h:JM n=true):(32:Int)∉XM (Ya n):=by
 have h:0<=n/\n<=250:=by unfold JM at h;simpa using h
 have:=QGx ⟨n.toNat,by omega⟩;rw [show ((((⟨n.toNat,by omega⟩:Fin 251).val:Nat)):Int)=n by show ((n.toNat:Nat):Int)=n;omega] at this;exact of_decide_eq_true this
theorem Qpe {p:Nf} (hp:PlantOk p) {x:Nd} (hx:StateOk p x) {t:Nl} (ht:t∈x.Na):(t.Nc=[]/\t.Nm=0/\Zs t=⟨#[45]⟩)\/(t.Nc≠[]/\(1<=t.Nm/\t.Nm<=8)/\(∀ s∈t.Nc,0<=s/\s < 8)/\XM (Zs t)=[48+t.Nm,58]++XM (Ze ⟨#[44]⟩ (t.Nc.map Ya))):=by
 have h8:=hp.s8;have hsec:∀ s∈t.Nc,0<=s/\s < 8:=fun s hs=>by
  have:=hx.sc t ht s hs;unfold XQ at this;simp at this;omega
 have hlen:=Qnj 8 t.Nc (hx.nd t ht) fun s hs=>by have:=hsec s hs;omega
 rcases hx.un t ht with ⟨h1,h2⟩ | ⟨h1,h2⟩
 ·exact .inl ⟨h1,h2,by unfold Zs;rw [h1,h2];rfl⟩
 ·refine .inr ⟨fun e=>by rw [e] at h2;simp at h2;omega,⟨h1,by omega⟩,hsec,?_⟩;unfold Zs;rw [if_neg (by omega),Qht,Qht,Qhw (by omega) (by omega)];rfl
theorem Qws {l:List Int} (h:∀ s∈l,0<=s/\s < 8):(l.map Ya).map XM=l.map fun s=>[48+s]:=by
 rw [EO];refine List.map_congr_left fun s hs=>?_;have:=h s hs;exact Qhw (by omega) (by omega)
theorem Qzv:∀ {l m:List Int},(l.map fun s=>[48+s])=(m.map fun s=>[48+s])->l=m
 | [],[],_=>rfl
 | [],_::_,h=>by cases h
 | _::_,[],h=>by cases h
 | x::l,y::m,h=>by
  rw [Eh,Eh] at h;obtain ⟨h1,h2⟩:=Em.inj h;have:=(Em.inj h1).1;rw [show x=y by omega,Qzv h2]
theorem QAu {l:List Int} (h:∀ s∈l,0<=s/\s < 8):∀ s∈l.map Ya,((44:UInt8).toNat:Int)∉XM s:=fun s hs=>by
 obtain ⟨n,hn,rfl⟩:=Ek.1 hs;have:=h n hn;rw [Qhw (by omega) (by omega)];simp;omega
theorem QWc {p:Nf} (hp:PlantOk p) {x y:Nd} (hx:StateOk p x) (hy:StateOk p y) {t u:Nl} (ht:t∈x.Na) (hu:u∈y.Na) (h:XM (Zs t)=XM (Zs u)):t=u:=by
 have e45:XM (ByteArray.mk #[45])=[45]:=rfl;obtain ⟨tc,tu⟩:=t;obtain ⟨uc,uu⟩:=u;rcases Qpe hp hx ht with ⟨a1,a2,a3⟩ | ⟨a1,a2,a3,a4⟩
 ·rcases Qpe hp hy hu with ⟨b1,b2,b3⟩ | ⟨b1,b2,b3,b4⟩
  ·dsimp only at a1 a2 b1 b2;rw [a1,a2,b1,b2]
  ·rw [a3,b4,e45] at h;have:=(Em.inj h).1;dsimp only at this b2;omega
 ·rcases Qpe hp hy hu with ⟨b1,b2,b3⟩ | ⟨b1,b2,b3,b4⟩
  ·rw [b3,a4,e45] at h;have:=(Em.inj h).1;dsimp only at this a2;omega
  ·rw [a4,b4] at h;obtain ⟨h1,h2⟩:=Em.inj h;have h3:=(Em.inj h2).2;dsimp only at a1 a2 a3 a4 b1 b2 b3 b4 h1 h3;have h4:Ze ⟨#[44]⟩ (tc.map Ya)=Ze ⟨#[44]⟩ (uc.map Ya):=QGm h3;have h5:=Qyu (QAu a3) (QAu b3) (by simpa using a1) (by simpa using b1) h4;rw [Qws a3,Qws b3] at h5;rw [Qzv h5,show tu=uu by omega]
theorem QQl {p:Nf} (hp:PlantOk p) {x:Nd} (hx:StateOk p x) {t:Nl} (ht:t∈x.Na):(32:Int)∉XM (Zs t):=by
 rcases Qpe hp hx ht with ⟨a1,a2,a3⟩ | ⟨a1,a2,a3,a4⟩
 ·rw [a3];decide
 ·rw [a4];obtain ⟨tc,tu⟩:=t;dsimp only at a1 a2 a3 a4 ⊢;cases tc with
  | nil=>exact absurd rfl a1
  | cons s l =>
   have hs:=a3 s (Ea ..);unfold Ze;rw [Eh];show (32:Int)∉[48+tu,58]++XM ((l.map Ya).foldl (fun r x=>r++⟨#[44]⟩++x) (Ya s));rw [Qlg,Qhw (by omega) (by omega)];intro h;rcases Eo.1 h with h | h
   ·simp at h;omega
   ·rcases Eo.1 h with h | h
    ·simp at h;omega
    ·obtain ⟨b,hb,h⟩:=Eq_.1 h;obtain ⟨n,hn,rfl⟩:=Ek.1 hb;have:=a3 n (Eb _ hn);rw [Qhw (by omega) (by omega)] at h;simp at h;omega
theorem QVa {n:Int} (h:Yb n=true):XM (Y1 n)=[48+n]:=by
 have h:n=0\/n=1:=by unfold Yb at h;simpa using h
 rcases h with rfl | rfl<;>rfl
theorem QGo:∀ {l:List Int},(∀ n∈l,Yb n=true)->XM (Zx (l.map Y1))=l.map (48+·):=by
 have key:∀ (l:List Int) (a:ByteArray),(∀ n∈l,Yb n=true)->XM ((l.map Y1).foldl (·++·) a)=XM a++l.map (48+·):=by
  intro l
  induction l with
  | nil=>intro a _;simp
  | cons n l ih =>
   intro a h;rw [Eh,Ev,ih _ fun m hm=>h m (Eb _ hm),Qht,QVa (h n (Ea ..)),Eh];simp
 intro l h;have:=key l ByteArray.empty h;rw [show XM ByteArray.empty=[] from rfl,Ew] at this;exact this
theorem Qum {l:List Int} (h:∀ n∈l,Yb n=true):(l=[]/\Jn l=⟨#[45]⟩)\/(l≠[]/\XM (Jn l)=l.map (48+·)):=by
 by_cases e:l=[]
 ·subst e;exact .inl ⟨rfl,rfl⟩
 ·refine .inr ⟨e,?_⟩;have hb:=QGo h;unfold Jn;rw [if_neg fun q=>?_,hb];rw [q] at hb;cases l with
  | nil=>exact e rfl
  | cons a l=>cases hb
theorem QUx {l m:List Int} (hl:∀ n∈l,Yb n=true) (hm:∀ n∈m,Yb n=true) (hlen:l.length=m.length) (h:XM (Jn l)=XM (Jn m)):l=m:=by
  rcases Qum hl with ⟨h1,_⟩ | ⟨h1,h2⟩
  · subst h1;exact (Ef.1 hlen.symm).symm
  · rcases Qum hm with ⟨h3,_⟩ | ⟨h3,h4⟩
    · subst h3;exact absurd (Ef.1 hlen) h1
    · rw [h2,h4] at h;have:∀ (l m:List Int),l.map (48+·)=m.map (48+·)->l=m:=fun l m q=>by
        have:=congrArg (List.map fun z:Int=>z - 48) q;rw [EO,EO] at this;have hid:((fun z:Int=>z - 48) ∘ fun x=>48+x)=id:=by funext z;simp;omega
        rw [hid,List.map_id,List.map_id] at this;exact this
      exact this l m h
theorem QUw {l:List Int} (h:∀ n∈l,Yb n=true):(32:Int)∉XM (Jn l):=by
 rcases Qum h with ⟨_,h2⟩ | ⟨_,h2⟩
 ·rw [h2];decide
 ·rw [h2];intro q;obtain ⟨n,hn,e⟩:=Ek.1 q;have:n=0\/n=1:=by have:=h n hn;unfold Yb at this;simpa using this
  omega
theorem QDz {p:Nf} (hp:PlantOk p) {x y:Nd} (hx:StateOk p x) (hy:StateOk p y):∀ {l m:List Nl},(∀ t∈l,t∈x.Na)->(∀ t∈m,t∈y.Na)->(l.map Zs).map XM=(m.map Zs).map XM->l=m
 | [],[],_,_,_=>rfl
 | [],_::_,_,_,h=>by cases h
 | _::_,[],_,_,h=>by cases h
 | t::l,u::m,hl,hm,h=>by
  simp only [Eh] at h;obtain ⟨h1,h2⟩:=Em.inj h;rw [QWc hp hx hy (hl t (Ea ..)) (hm u (Ea ..)) h1,QDz hp hx hy (fun a ha=>hl a (Eb _ ha)) (fun a ha=>hm a (Eb _ ha)) h2]
theorem Qxy {p:Nf} (hp:PlantOk p) {x y:Nd} (hx:StateOk p x) (hy:StateOk p y) (hc:x.Nh=y.Nh) (h:X7 x=X7 y):x=y:=by
 have hq:∀ {z:Nd},StateOk p z->∀ s∈[Jn z.Nb,Ya z.Nh]++z.Na.map Zs,((32:UInt8).toNat:Int)∉XM s:=fun {z} hz s hs=>by
  show (32:Int)∉XM s;rcases Eo.1 hs with hs | hs
  ·simp at hs;rcases hs with rfl | rfl
   ·exact QUw hz.pos
   ·exact QGy hz.cnt
  ·obtain ⟨t,ht,rfl⟩:=Ek.1 hs;exact QQl hp hz ht
 unfold X7 at h;have h1:=Qyu (hq hx) (hq hy) (by simp) (by simp) h;simp only [EF,Eh,List.map_nil,EE,Ew] at h1;obtain ⟨h2,h3⟩:=Em.inj h1;have h4:=(Em.inj h3).2;have e1:=QUx hx.pos hy.pos (by rw [hx.sw,hy.sw]) h2;have e2:=QDz hp hx hy (fun _ h=>h) (fun _ h=>h) h4;obtain ⟨a,b,c⟩:=x;obtain ⟨a',b',c'⟩:=y;dsimp only at e1 e2 hc;rw [e1,e2,hc]
end Go.Gw

end
section
set_option maxRecDepth 4096
set_option linter.unusedVariables false
namespace Go.Gw
open Go
attribute [local irreducible] loop
theorem Run.app {p:Nf}:∀ {l m:List Nj} {x y z:Nd},Run p x l y->Run p y m z->Run p x (l++m) z
 | [],m,x,y,z,h,hm=>by cases h;exact hm
 | a::l,m,x,y,z,h,hm=>⟨h.1,Run.app h.2 hm⟩
theorem Run.split {p:Nf}:∀ {l m:List Nj} {x z:Nd},Run p x (l++m) z->∃ y,Run p x l y/\Run p y m z
 | [],m,x,z,h=>⟨x,rfl,h⟩
 | a::l,m,x,z,h=>by
  obtain ⟨y,h1,h2⟩:=Run.split (l:=l) h.2;exact ⟨y,⟨h.1,h1⟩,h2⟩
theorem Run.cnt {p:Nf}:∀ {l:List Nj} {x z:Nd},Run p x l z->z.Nh=x.Nh
 | [],x,z,h=>by cases h;rfl
 | a::l,x,z,h=>by rw [Run.cnt h.2,Quf]
theorem Run.last {p:Nf} {l:List Nj} {x z:Nd} {n:Nat} (h:Run p x l z) (hl:l.length=n+1):∃ m u e,m.length=n/\Run p x m u/\e∈Yh p u/\z=XC p u e:=by
 have hne:l≠[]:=fun e=>by rw [e] at hl;cases hl
 rw [<-List.dropLast_concat_getLast hne] at h;obtain ⟨u,h1,h2,h3⟩:=Run.split h;exact ⟨_,u,_,by rw [List.length_dropLast,hl];rfl,h1,h2,h3.symm⟩
theorem Qpy:∀ (ys:List Nd) (acc:List Nd×List ByteArray),acc.2.Nodup->(ys.foldl Yx acc).2.Nodup/\(∀ y∈ys,X7 y∈(ys.foldl Yx acc).2)/\∀ s∈acc.2,s∈(ys.foldl Yx acc).2
 | [],acc,h=>⟨h,(fun y hy=>nomatch hy),fun s hs=>hs⟩
 | y::ys,acc,h=>by
  rw [Ev];by_cases hm:YQ acc.2 (X7 y)=true
  ·have e:Yx acc y=acc:=by unfold Yx;rw [if_pos hm]
   rw [e];obtain ⟨h1,h2,h3⟩:=Qpy ys acc h;refine ⟨h1,fun z hz=>?_,h3⟩;rcases Ez.1 hz with rfl | hz
   ·exact h3 _ (memK_iff.1 hm)
   ·exact h2 z hz
  ·have e:Yx acc y=(acc.1++[y],acc.2++[X7 y]):=by unfold Yx;rw [if_neg hm]
   rw [e];have hn:X7 y∉acc.2:=fun q=>hm (memK_iff.2 q)
   have hnd:(acc.2++[X7 y]).Nodup:=by
    rw [EB];refine ⟨h,by simp,fun a ha b hb=>?_⟩;rw [Ed.1 hb];rintro rfl;exact hn ha
   obtain ⟨h1,h2,h3⟩:=Qpy ys (acc.1++[y],acc.2++[X7 y]) hnd;refine ⟨h1,fun z hz=>?_,fun s hs=>h3 s (EK _ hs)⟩;rcases Ez.1 hz with rfl | hz
   ·exact h3 _ (EI _ (Ed.2 rfl))
   ·exact h2 z hz
theorem QSn {p:Nf} (hp:PlantOk p) {c:Int} {new:List Nd} {keys:List ByteArray} (hok:Qfh p c new) (hk:keys.Nodup) :
  (rnd p new keys).2.Nodup/\(∀ s,s∈(rnd p new keys).2↔s∈keys\/∃ y∈new.flatMap (Y7 p),X7 y=s)/\∀ z,z∈(rnd p new keys).1↔z∈new.flatMap (Y7 p)/\X7 z∉keys:=by
 have hfl:=Qui hp hok;obtain ⟨w,h1,h2,h3⟩:=Qfl (new.flatMap (Y7 p)) ([],keys);obtain ⟨g1,g2,g3⟩:=Qpy (new.flatMap (Y7 p)) ([],keys) hk;unfold rnd;rw [h1] at g1 g2 g3 ⊢;dsimp only at g1 g2 g3 ⊢;rw [Ew];rw [EB] at g1;refine ⟨EB.2 g1,fun s=>⟨fun hs=>?_,fun hs=>?_⟩,fun z=>⟨fun hz=>⟨h3 z hz,fun q=>g1.2.2 _ q _ (EM hz) rfl⟩,fun hz=>?_⟩⟩
 ·rcases Eo.1 hs with hs | hs
  ·exact .inl hs
  ·obtain ⟨y,hy,rfl⟩:=Ek.1 hs;exact .inr ⟨y,h3 y hy,rfl⟩
 ·rcases hs with hs | ⟨y,hy,rfl⟩
  ·exact g3 s hs
  ·exact g2 y hy
 ·rcases Eo.1 (g2 z hz.1) with q | q
  ·exact absurd q hz.2
  ·obtain ⟨y,hy,e⟩:=Ek.1 q;have a:=hfl y (h3 y hy);have b:=hfl z hz.1;rw [<-Qxy hp a.1 b.1 (by rw [a.2,b.2]) e];exact hy
noncomputable def YZ (p:Nf) (x:Nd):Nat->List Nd×List ByteArray
 | 0=>([x],[X7 x])
 | j+1=>rnd p (YZ p x j).1 (YZ p x j).2
structure LevOk (p:Nf) (x:Nd) (j:Nat):Prop where
 ok:Qfh p x.Nh (YZ p x j).1
 nd:(YZ p x j).2.Nodup
 keys:∀ s,s∈(YZ p x j).2↔∃ z l,l.length<=j/\Run p x l z/\X7 z=s
 new:∀ z,z∈(YZ p x j).1↔(∃ l,l.length=j/\Run p x l z)/\∀ l,Run p x l z->j<=l.length
theorem flat_mem {p:Nf} {new:List Nd} {z:Nd}:z∈new.flatMap (Y7 p)↔∃ u∈new,∃ e∈Yh p u,z=XC p u e:=by
 rw [Eq_];unfold Y7;constructor
 ·rintro ⟨u,hu,h⟩;obtain ⟨e,he,rfl⟩:=Ek.1 h;exact ⟨u,hu,e,he,rfl⟩
 ·rintro ⟨u,hu,e,he,rfl⟩;exact ⟨u,hu,EM he⟩
theorem Qig {p:Nf} (hp:PlantOk p) {x:Nd} (hx:StateOk p x):∀ j,LevOk p x j
 | 0=>by
  refine ⟨fun y hy=>?_,(by simp [YZ]),fun s=>⟨fun hs=>⟨x,[],Ey _,rfl,(Ed.1 hs).symm⟩,?_⟩,fun z=>⟨fun hz=>?_,?_⟩⟩
  ·rw [Ed.1 hy];exact ⟨hx,rfl⟩
  ·rintro ⟨z,l,hl,h,rfl⟩;have:l=[]:=Ef.1 (by omega);subst this;cases h;exact Ed.2 rfl
  ·rw [Ed.1 hz];exact ⟨⟨[],rfl,rfl⟩,fun _ _=>EG _⟩
  ·rintro ⟨⟨l,hl,h⟩,_⟩;have:l=[]:=Ef.1 hl;subst this;cases h;exact Ed.2 rfl
 | j+1=>by
  have ih:=Qig hp hx j;obtain ⟨h1,h2,h3⟩:=QSn hp ih.ok ih.nd;have hfl:=Qui hp ih.ok;have path:∀ {z:Nd},z∈(YZ p x j).1.flatMap (Y7 p)->∃ l,l.length=j+1/\Run p x l z:=fun {z} hz=>by
   obtain ⟨u,hu,e,he,rfl⟩:=flat_mem.1 hz;obtain ⟨⟨l,hl,hr⟩,_⟩:=(ih.new u).1 hu;exact ⟨l++[e],by rw [Ee,hl];rfl,hr.snoc he⟩
  refine ⟨fun z hz=>hfl z ((h3 z).1 hz).1,h1,fun s=>(h2 s).trans ⟨?_,?_⟩,fun z=>(h3 z).trans ⟨?_,?_⟩⟩
  ·rintro (hs | ⟨y,hy,rfl⟩)
   ·obtain ⟨z,l,hl,hr,e⟩:=(ih.keys s).1 hs;exact ⟨z,l,by omega,hr,e⟩
   ·obtain ⟨l,hl,hr⟩:=path hy;exact ⟨y,l,by omega,hr,rfl⟩
  ·rintro ⟨z,l,hl,hr,rfl⟩;by_cases hlj:l.length<=j
   ·exact .inl ((ih.keys _).2 ⟨z,l,hlj,hr,rfl⟩)
   ·obtain ⟨m,u,e,hm,hu,he,rfl⟩:=hr.last (n:=j) (by omega);by_cases hmin:∀ l,Run p x l u->j<=l.length
    ·exact .inr ⟨_,flat_mem.2 ⟨u,(ih.new u).2 ⟨⟨m,hm,hu⟩,hmin⟩,e,he,rfl⟩,rfl⟩
    ·obtain ⟨q,hq⟩:=Classical.not_forall.1 hmin;obtain ⟨hq,hq2⟩:=Classical.not_imp.1 hq;exact .inl ((ih.keys _).2 ⟨_,q++[e],by rw [Ee];simp;omega,hq.snoc he,rfl⟩)
  ·rintro ⟨hz,hk⟩;refine ⟨path hz,fun l hr=>?_⟩;rcases EP j l.length with h | h
   ·exact h
   ·exact absurd ((ih.keys _).2 ⟨z,l,h,hr,rfl⟩) hk
  ·rintro ⟨⟨l,hl,hr⟩,hmin⟩;obtain ⟨m,u,e,hm,hu,he,rfl⟩:=hr.last (n:=j) hl;refine ⟨flat_mem.2 ⟨u,(ih.new u).2 ⟨⟨m,hm,hu⟩,fun q hq=>?_⟩,e,he,rfl⟩,fun hk=>?_⟩
   ·have:=hmin _ (hq.snoc he);rw [Ee] at this;simp at this;omega
   ·obtain ⟨z,q,hq,hr2,e2⟩:=(ih.keys _).1 hk;have a:=Run.ok hp hx hr;have b:=Run.ok hp hx hr2;have:=Qxy hp b a (by rw [Run.cnt hr,Run.cnt hr2]) e2;subst this;have:=hmin q hr2;omega
theorem QAd {p:Nf} (hp:PlantOk p) {x:Nd} (hx:StateOk p x) {to:Nx} {m:Nat} (h:∀ i,i < m->(YZ p x i).1.any (Y5 to)=false):∀ (n:Nat) (l:List Nj) (z:Nd),l.length=n->n < m->Run p x l z->Y5 to z=false:=by
 intro n
 induction n using Nat.strongRecOn with
 | _ n ih =>
  intro l z hl hn hr;by_cases hmin:∀ q,Run p x q z->n<=q.length
  ·have hz:=((Qig hp hx n).new z).2 ⟨⟨l,hl,hr⟩,hmin⟩;have:=h n hn;rw [EC] at this;simpa using this z hz
  ·obtain ⟨q,hq⟩:=Classical.not_forall.1 hmin;obtain ⟨hq,hq2⟩:=Classical.not_imp.1 hq;exact ih q.length (by omega) q z rfl (by omega) hq
theorem Qvd {p:Nf} {x:Nd} {to:Nx}:∀ (n j k:Nat) {m:Nat},ZG p to n (YZ p x j).1 (YZ p x j).2 k=((m:Int),true)->∃ i,m=k+i/\(∀ i',i' < i->(YZ p x (j+i')).1.any (Y5 to)=false/\(YZ p x (j+i')).2.length<=2000)/\(YZ p x (j+i)).1.any (Y5 to)=true
 | 0,j,k,m,h=>by unfold ZG at h;cases (Prod.mk.inj h).2
 | n+1,j,k,m,h=>by
  unfold ZG at h;by_cases h1:(YZ p x j).1=[]
  ·rw [if_pos h1] at h;have:=(Prod.mk.inj h).1;omega
  rw [if_neg h1] at h;by_cases h2:(YZ p x j).1.any (Y5 to)=true
  ·rw [if_pos h2] at h;have:=(Prod.mk.inj h).1;exact ⟨0,by omega,fun i' hi=>absurd hi (Nat.not_lt_zero _),h2⟩
  rw [if_neg h2] at h;by_cases h3:2000 < (YZ p x j).2.length
  ·rw [if_pos h3] at h;cases (Prod.mk.inj h).2
  rw [if_neg h3] at h;obtain ⟨i,g1,g2,g3⟩:=Qvd n (j+1) (k+1) (m:=m) h;refine ⟨i+1,by omega,fun i' hi=>?_,by rw [show j+(i+1)=j+1+i by omega];exact g3⟩;cases i' with
  | zero=>exact ⟨by simpa using h2,Nat.le_of_not_lt h3⟩
  | succ i' =>
   have:=g2 i' (by omega);rw [show j+(i'+1)=j+1+i' by omega];exact this
theorem QEi {p:Nf} {x:Nd} {to:Nx}:∀ (i n j k:Nat),i < n->(∀ i',i' < i->(YZ p x (j+i')).1≠[]/\(YZ p x (j+i')).1.any (Y5 to)=false/\(YZ p x (j+i')).2.length<=2000)->(YZ p x (j+i)).1.any (Y5 to)=true->ZG p to n (YZ p x j).1 (YZ p x j).2 k=(((k+i:Nat):Int),true)
 | i,0,j,k,hi,_,_=>by omega
 | 0,n+1,j,k,hi,_,h=>by
  unfold ZG;have h:(YZ p x j).1.any (Y5 to)=true:=h;have hne:(YZ p x j).1≠[]:=fun e=>by rw [e] at h;exact absurd h Ej
  rw [if_neg hne,if_pos h];rfl
 | i+1,n+1,j,k,hi,hs,h=>by
  obtain ⟨h1,h2,h3⟩:=hs 0 (by omega);rw [Nat.add_zero] at h1 h2 h3;unfold ZG;rw [if_neg h1,if_neg (by rw [h2];exact Ej),if_neg (by omega)];have:=QEi i n (j+1) (k+1) (by omega) (fun i' hi'=>by
   have:=hs (i'+1) (by omega);rw [show j+(i'+1)=j+1+i' by omega] at this;exact this) (by rw [show j+1+i=j+(i+1) by omega];exact h)
  rw [show k+(i+1)=k+1+i by omega];exact this
theorem QAy:∀ {l m:List ByteArray},l.Nodup->(∀ s∈l,s∈m)->l.length<=m.length
 | [],m,_,_=>EG _
 | a::l,m,hn,hs=>by
  rw [List.nodup_cons] at hn;obtain ⟨u,v,rfl⟩:=List.append_of_mem (hs a (Ea ..));have h1:=QAy (l:=l) (m:=u++v) hn.2 fun s q=>by
   rcases Eo.1 (hs s (Eb _ q)) with h | h
   ·exact EK _ h
   ·rcases Ez.1 h with rfl | h
    ·exact absurd q hn.1
    ·exact EI _ h
  rw [Ee] at h1;rw [En,Ee,En];omega
theorem QWs {p:Nf} (hp:PlantOk p) {x:Nd} (hx:StateOk p x) {to:Nx} {m:Nat} (hW:ZG p to JG [x] [X7 x] 0=(((m+1:Nat):Int),true)) {e:Nj} {l:List Nj} {z:Nd} (hr:Run p x (e::l) z) (hl:l.length=m) (hz:Y5 to z=true):ZG p to JG [XC p x e] [X7 (XC p x e)] 0=((m:Int),true):=by
 have hlen:=QEj JG [x] [X7 x] 0 hW;obtain ⟨i,h1,h2,h3⟩:=Qvd JG 0 0 (x:=x) hW;have hi:i=m+1:=by omega
 subst hi;have hno:=QAd hp hx (m:=m+1) fun i hi=>by have:=(h2 i hi).1;rwa [Eu] at this
 obtain ⟨q1,q2⟩:=Qjl hr.1;have hy:=Qew hp hx q1 q2;have hmin:∀ {q:List Nj},Run p (XC p x e) q z->m<=q.length:=fun {q} hq=>by
  rcases EP q.length m with h | h
  ·have:=hno (q.length+1) (e::q) z rfl (by omega) ⟨hr.1,hq⟩;rw [hz] at this;cases this
  ·exact h
 have:=QEi (p:=p) (x:=XC p x e) (to:=to) m JG 0 0 (by omega) (fun i hi=>?_) ?_
 ·rw [Eu] at this;exact this
 ·rw [Eu];have hL:=Qig hp hy i;refine ⟨?_,?_,?_⟩
  ·have hsp:Run p (XC p x e) (l.take i++l.drop i) z:=by rw [List.take_append_drop];exact hr.2
   obtain ⟨u,g1,g2⟩:=Run.split hsp;have hu:u∈(YZ p (XC p x e) i).1:=(hL.new u).2 ⟨⟨_,by rw [ED];omega,g1⟩,fun q hq=>by
    have:=hmin (hq.app g2);rw [Ee,List.length_drop] at this;omega⟩
   exact fun e=>by rw [e] at hu;cases hu
  ·rw [EC];intro u hu;obtain ⟨⟨q,hq,hq2⟩,_⟩:=(hL.new u).1 hu;rw [hno (i+1) (e::q) u (by rw [En,hq]) (by omega) ⟨hr.1,hq2⟩];exact Ej
  ·have hX:=(h2 (i+1) (by omega)).2;rw [Eu] at hX;refine EN (QAy hL.nd fun s hs=>?_) hX;obtain ⟨u,q,hq,hq2,he⟩:=(hL.keys s).1 hs;exact ((Qig hp hx (i+1)).keys s).2 ⟨u,e::q,by rw [En];omega,⟨hr.1,hq2⟩,he⟩
 ·rw [Eu,List.any_eq_true];exact ⟨z,((Qig hp hy m).new z).2 ⟨⟨l,hl,hr.2⟩,fun q hq=>hmin hq⟩,hz⟩
/-! ### There is a short way -/
theorem Quk:∀ (l:List Nat) (i:Nat) (h:i < l.length) (b:Nat),(l.set i b).sum+l[i]=l.sum+b
 | [],i,h,b=>by cases h
 | a::l,0,h,b=>by simp;omega
 | a::l,i+1,h,b=>by
  have:=Quk l i (by simpa using h) b;simp at this ⊢;omega
theorem Quj {M:Nat}:∀ {l:List Nat},(∀ a∈l,a<=M)->l.sum<=l.length * M
 | [],_=>by simp
 | a::l,h=>by
  have h1:=Quj (l:=l) fun b hb=>h b (Eb _ hb)
  have h2:=h a (Ea ..);rw [List.sum_cons,En,Nat.succ_mul];omega
def Qaj (x:Nd):Nat:=(x.Na.map fun t=>t.Nc.length).sum
theorem Qxo {p:Nf} {k a b:Nat} (hk:k < 7) (ha:a < Zw p k) (hb:b < YY p k):Ys k a b∈ZW p:=by
 unfold ZW;exact Eq_.2 ⟨k,EJ.2 hk,Eq_.2 ⟨a,EJ.2 ha,Eq_.2 ⟨b,EJ.2 hb,Ed.2 rfl⟩⟩⟩
theorem QLy {p:Nf} {x:Nd} (hx:StateOk p x) {i:Nat} (hi:i < x.Na.length) (hne:x.Na[i].Nc≠[]):∃ e,e∈Yh p x/\Qaj (XC p x e)+1=Qaj x:=by
  have hpos:0 < x.Na[i].Nc.length:=Ex.2 hne;have hti:i < p.Na.length:=by have:=hx.tr;omega
  rcases hx.un _ (Ei hi) with ⟨h1,_⟩ | ⟨h1,h2⟩
  · exact absurd h1 hne
  have key:∀ k:Nat,k=4\/k=5\/k=6->Zc p x (Ys k i 0)=0->(trX p x.Na[i] (Ys k i 0)).Nc.length+1=x.Na[i].Nc.length->∃ e,e∈Yh p x/\Qaj (XC p x e)+1=Qaj x:=fun k hk h0 hl=>by
    refine ⟨Ys k i 0,?_,?_⟩
    · unfold Yh;rw [Es,decide_eq_true_eq];refine ⟨Qxo (by omega) ?_ ?_,h0⟩
      · unfold Zw;rw [if_neg (by omega)];exact hti
      · unfold YY;rw [if_neg (by omega),if_neg (by omega),if_neg (by omega)];exact Nat.one_pos
    · have htr : Zr x (Ys k i 0) = x.Na[i] := by
        unfold Zr Ys;rw [Eg,Ec hi];rfl
      unfold XC;rw [if_neg (by show ¬ ((k:Int)=2);omega),htr];unfold Qaj;dsimp only;rw [show (Ys k i 0).A.toNat=i from Eg i,List.map_set];have:=Quk (x.Na.map fun t=>t.Nc.length) i (by simpa using hi) (trX p x.Na[i] (Ys k i 0)).Nc.length;rw [List.getElem_map] at this;omega
  have htr:∀ k,Zr x (Ys k i 0)=x.Na[i]:=fun k=>by
    unfold Zr Ys;rw [Eg,Ec hi];rfl
  by_cases hu:x.Na[i].Nm < x.Na[i].Nc.length
  · refine key 5 (by omega) ?_ ?_
    · unfold Zc;rw [htr];simp [Ys,hne,hu]
    · simp [trX,Ys];omega
  by_cases hu1:1 < x.Na[i].Nm
  · refine key 4 (by omega) ?_ ?_
    · unfold Zc;rw [htr];simp [Ys,hne,hu1]
    · simp [trX,Ys];omega
  · refine key 6 (by omega) ?_ ?_
    · unfold Zc;rw [htr];have:x.Na[i].Nc.length=1:=by omega
      simp [Ys,hne,this]
    · simp [trX,Ys];omega
theorem Qwx {p:Nf} (hp:PlantOk p):∀ (n:Nat) {x:Nd},StateOk p x->Qaj x=n->∃ l z,l.length=n/\Run p x l z/\StateOk p z/\∀ t∈z.Na,t.Nc=[]
 | 0,x,hx,h=>by
  refine ⟨[],x,rfl,rfl,hx,fun t ht=>?_⟩;obtain ⟨i,hi,rfl⟩:=EL.1 ht;have:=Quk (x.Na.map fun t=>t.Nc.length) i (by simpa using hi) 0;rw [List.getElem_map] at this;unfold Qaj at h;exact Ef.1 (by omega)
 | n+1,x,hx,h=>by
  have:∃ i,∃ hi:i < x.Na.length,x.Na[i].Nc≠[]:=by
   refine Classical.byContradiction fun q=>?_;have h0:∀ t∈x.Na,t.Nc.length=0:=fun t ht=>by
    obtain ⟨i,hi,rfl⟩:=EL.1 ht;exact Classical.byContradiction fun c=>q ⟨i,hi,fun e=>c (by rw [e];rfl)⟩
   have:Qaj x=0:=by
    have:=Quj (M:=0) (l:=x.Na.map fun t=>t.Nc.length) fun a ha=>by
     obtain ⟨t,ht,rfl⟩:=Ek.1 ha;rw [h0 t ht];exact Ey _
    unfold Qaj;omega
   omega
  obtain ⟨i,hi,hne⟩:=this;obtain ⟨e,he,hc⟩:=QLy hx hi hne;obtain ⟨q1,q2⟩:=Qjl he;obtain ⟨l,z,g1,g2,g3⟩:=Qwx hp n (Qew hp hx q1 q2) (by omega);exact ⟨e::l,z,by rw [En,g1],⟨he,g2⟩,g3⟩
theorem QTr {p:Nf} (hp:PlantOk p) {x:Nd} (hx:StateOk p x) {to:Nx} (ht:Zt p to.e0=true) (hs:XQ p to.e1=true):∃ l z,l.length<=25/\Run p x l z/\Y5 to z=true:=by
 have hc:Qaj x<=24:=by
  have h8:=hp.s8;have h3:=hp.t3;have:=Quj (M:=8) (l:=x.Na.map fun t=>t.Nc.length) fun a ha=>by
   obtain ⟨t,ht,rfl⟩:=Ek.1 ha;exact Qnj 8 t.Nc (hx.nd t ht) fun s hs=>by
    have:=hx.sc t ht s hs;unfold XQ at this;simp at this;omega
  rw [Er,hx.tr] at this;unfold Qaj;omega
 obtain ⟨l,z,h1,h2,h3,h4⟩:=Qwx hp (Qaj x) hx rfl;obtain ⟨k,hk,hkl⟩:=Quy h3 ht;have hb:0<=to.e1/\to.e1.toNat < p.Ng.length:=by
  unfold XQ at hs;simp at hs;omega
 have hev:Ys 0 k to.e1.toNat=⟨0,to.e0,to.e1⟩:=by
  unfold Ys;rw [hk,show ((to.e1.toNat:Nat):Int)=to.e1 by omega];rfl
 have htr:Zr z ⟨0,to.e0,to.e1⟩=z.Na[k]:=by
  unfold Zr;rw [hk,Eg,Ec hkl];rfl
 have hnt:YI z to.e1=false:=by
  unfold YI;rw [EC];intro t ht;rw [h4 t ht];simp
 refine ⟨l++[⟨0,to.e0,to.e1⟩],XC p z ⟨0,to.e0,to.e1⟩,by rw [Ee,h1];simp;omega,h2.snoc ?_,?_⟩
 ·unfold Yh;rw [Es,decide_eq_true_eq];refine ⟨hev▸Qxo (by omega) ?_ ?_,?_⟩
  ·unfold Zw;rw [if_neg (by omega),<-h3.tr];exact hkl
  ·unfold YY;rw [if_pos rfl];exact hb.2
  ·unfold Zc;rw [htr,h4 _ (Ei hkl),hnt];rfl
 ·unfold Y5 XC;rw [if_neg (by show ¬ ((0:Int)=2);omega)];dsimp only;rw [hk,Eg,List.getElem?_set_self hkl];unfold trX;rw [if_pos rfl];simp
theorem QWt {p:Nf} (hp:PlantOk p) {x:Nd} (hx:StateOk p x) {to:Nx} (ht:Zt p to.e0=true) (hs:XQ p to.e1=true) {m:Nat} (hW:ZG p to JG [x] [X7 x] 0=((m:Int),true)):m<=25:=by
 obtain ⟨i,h1,h2,h3⟩:=Qvd JG 0 0 (x:=x) hW;have hi:i=m:=by omega
 subst hi;obtain ⟨l,z,g1,g2,g3⟩:=QTr hp hx ht hs;rcases EP l.length i with h | h
 ·have:=QAd hp hx (m:=i) (fun j hj=>by have:=(h2 j hj).1;rwa [Eu] at this) l.length l z rfl h g2;rw [g3] at this;cases this
 ·omega
end Go.Gw

end
