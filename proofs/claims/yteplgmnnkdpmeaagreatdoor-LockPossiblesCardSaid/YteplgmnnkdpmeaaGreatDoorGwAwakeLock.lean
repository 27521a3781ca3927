/- Laws of the walk. Condition: each theorem says its own. -/
import Derived.Test.YteplgmnnkdpmeaaGreatDoorGwTopA
import Derived.Test.YteplgmnnkdpmeaaGreatDoorGwLib21
set_option linter.unusedVariables false
set_option linter.unusedSimpArgs false
set_option linter.unusedSectionVars false
section
set_option maxRecDepth 100000
namespace Go.Gw
open Go
theorem Qyo:Qma=some true:=by decide +kernel
end Go.Gw

end
section
set_option linter.unusedSectionVars false
namespace Go.Gw
section
variable {α β γ σ ρ:Type}
def Yn (p:α->Bool) (res:Nat->α->ρ):Nat->List α->ρ⊕Unit
 | _,[]=>.inr ()
 | k,x::xs=>if p x then .inl (res k x) else Yn p res (k+1) xs
theorem Y0 {step:Int->Option (Int⊕(ρ⊕Unit))} (xs:List α) (p:α->Bool) (res:Nat->α->ρ)
  (hs:∀ k (hk:k < xs.length),step (k:Int)=(bif p xs[k] then some (.inr (.inl (res k xs[k]))) else some (.inl ((k+1:Nat):Int))))
  (he:step (xs.length:Int)=some (.inr (.inr ()))):loop step 0=some (Yn p res 0 xs):=by
 have key:∀ j k,j+k=xs.length->loop step (k:Int)=some (Yn p res k (xs.drop k)):=by
  intro j
  induction j with
  | zero =>
   intro k hk;obtain rfl:k=xs.length:=by omega
   rw [List.drop_length];exact Qbl he
  | succ j ih =>
   intro k hk;have hlt:k < xs.length:=by omega
   rw [List.drop_eq_getElem_cons hlt];have:=hs k hlt;cases hp:p xs[k] with
   | true=>simp_all [Qbl,Yn,if_true]
   | false=>grind [Qbk,Yn]
 have:=key xs.length 0 (by omega);trivial

def fld (f:Nat->γ->α->γ):Nat->γ->List α->γ
 | _,a,[]=>a
 | k,a,x::xs=>fld f (k+1) (f k a x) xs
theorem QBj {step:σ->Option (σ⊕β)} (xs:List α) (f:Nat->γ->α->γ) (S:γ->Nat->σ) (o:γ->β) (Inv:γ->Nat->Prop) (a0:γ) (h0:Inv a0 0)
  (hs:∀ k (hk:k < xs.length) a,Inv a k->step (S a k)=some (.inl (S (f k a xs[k]) (k+1)))/\Inv (f k a xs[k]) (k+1))
  (he:∀ a,Inv a xs.length->step (S a xs.length)=some (.inr (o a))):loop step (S a0 0)=some (o (fld f 0 a0 xs))/\Inv (fld f 0 a0 xs) xs.length:=by
 have key:∀ j k a,j+k=xs.length->Inv a k->loop step (S a k)=some (o (fld f k a (xs.drop k)))/\Inv (fld f k a (xs.drop k)) xs.length:=by
  intro j
  induction j with
  | zero =>
   intro k a hk hI;obtain rfl:k=xs.length:=by omega
   rw [List.drop_length];exact ⟨Qbl (he a hI),hI⟩
  | succ j ih =>
   intro k a hk hI;have hlt:k < xs.length:=by omega
   rw [List.drop_eq_getElem_cons hlt];have:=hs k hlt a hI;rw [Qbk this.1];exact ih (k+1) _ (by omega) this.2
 have:=key xs.length 0 a0 (by omega) h0;trivial

theorem XK (k:Nat) (h:k < 4611686018427387904):w64 ((k:Int)+1)=((k+1:Nat):Int):=by grind [Zf]
theorem XQ {k n:Nat} (h:k < n):decide ((k:Int) < (n:Int))=true:=by simp;omega
theorem XS (n:Nat):decide ((n:Int) < (n:Int))=false:=by simp
end
end Go.Gw

end
section
set_option maxRecDepth 4096
namespace Go.Gw
open Go
def ZX:List Int->Int
 | []=>0
 | x::xs=>if x=0 then ZX xs else x
theorem ZF (l:List Int) (hl:l.length < 1073741824):ZN l=some (ZX l):=by
  unfold ZN;rw [Y0 l (fun x=>!decide (x=0)) (fun _ x=>x)]
  · have key : ∀ (l : List Int) k, (Xt (Yn (fun x => !decide (x = 0)) (fun _ x => x) k l) fun (_ : Unit) => some 0) = some (ZX l) := by
      intro l
      induction l with
      | nil=>intro k;rfl
      | cons x xs ih =>
        intro k;by_cases h:x=0
        · simp [Yn,ZX,h];exact ih _
        · simp [Yn,ZX,h,Xt]
    simpa using key l 0
  · intro k hk;unfold Qtn;rw [XQ hk,XA hk,XK k (by omega)];rfl
  · unfold Qtn;rw [XS];rfl
theorem YK (b:Bool) (e:Int):Yp b e=some (bif b then 0 else e):=by cases b<;>rfl
theorem Qxj (n lo hi:Int):JC n lo hi=some (decide (lo<=n)&&decide (n<=hi)):=rfl
theorem QKm (n:Int):Qml n=some (decide (0<=n)&&decide (n<=6)):=rfl
end Go.Gw

end
section
set_option maxRecDepth 4096
namespace Go.Gw
open Go
def Qbg (n:Int):Bool:=decide (0<=n)&&decide (n<=250)
end Go.Gw

end
section
set_option maxRecDepth 4096
namespace Go.Gw
open Go
attribute [local irreducible] loop
end Go.Gw

end
section
set_option maxRecDepth 4096
namespace Go.Gw
open Go
attribute [local irreducible] loop
end Go.Gw

end
section
set_option maxRecDepth 4096
namespace Go.Gw
open Go
attribute [local irreducible] loop
theorem Qev {α:Type} (p:α->Bool):∀ (l:List α) (k:Nat),(Xt (β:=Int) (Yn p (fun k _=>(k:Int)) k l) fun (_:Unit)=>some (-1))=some (match Yn p (fun k _=>(k:Int)) k l with | .inl i=>i | .inr _=>-1)
 | l,k=>by cases Yn p (fun k _=>(k:Int)) k l<;>rfl
theorem Qjv {α:Type} (p:α->Bool):∀ (l:List α) (k:Nat),decide (0<=(match Yn p (fun k _=>(k:Int)) k l with | .inl i=>i | .inr _=>(-1:Int)))=l.any p
 | [],k=>by simp [Yn]
 | x::xs,k=>by
  by_cases h:p x=true
  ·simp [Yn,h]
  ·simp only [Yn,h,List.any_cons];have:=Qjv p xs (k+1);simpa [h] using this
theorem ZY {α ρ:Type} {p:α->Bool} {res:Nat->α->ρ}:∀ (l:List α) (k:Nat),(Yn p res k l=.inr ()/\l.any p=false)\/∃ j x,Yn p res k l=.inl (res j x)/\p x=true/\l.any p=true
 | [],k=>.inl ⟨rfl,rfl⟩
 | x::xs,k=>by
  by_cases h:p x=true
  ·exact .inr ⟨k,x,by simp [Yn,h],h,by simp [h]⟩
  ·rcases ZY xs (k+1) (p:=p) (res:=res) with ⟨h1,h2⟩ | ⟨j,y,h1,h2,h3⟩
   ·exact .inl ⟨by simp [Yn,h,h1],by simp [h,h2]⟩
   ·exact .inr ⟨j,y,by simp [Yn,h,h1],h2,by simp [h3]⟩
def XP (f:Nat->Int) (n:Nat):Option Nat:=(List.range n).find? fun i=>decide (f i≠0)
theorem Qlk (f:Nat->Int) (n:Nat):(XP f n=none/\∀ j,j < n->f j=0)\/∃ i,XP f n=some i/\i < n/\f i≠0/\∀ j,j < i->f j=0:=by
 cases h:XP f n with
 | none =>
  refine .inl ⟨rfl,fun j hj=>?_⟩;have:=List.find?_eq_none.1 h j (List.mem_range.2 hj);simpa using this
 | some i =>
  right;obtain ⟨h1,h2,h3⟩:=List.find?_range_eq_some.1 h;exact ⟨i,rfl,List.mem_range.1 h2,by simpa using h1,fun j hj=>by have:=h3 j hj;simpa using this⟩
theorem Qak {σ ρ μ:Type} {step:σ->Option (σ⊕(ρ⊕μ))} (S:Nat->σ) (n:Nat) (f:Nat->Int) (res:Nat->Int->ρ) (o:μ)
  (hs:∀ k,k < n->(∀ j,j < k->f j=0)->step (S k)=if f k=0 then some (.inl (S (k+1))) else some (.inr (.inl (res k (f k))))) (he:(∀ j,j < n->f j=0)->step (S n)=some (.inr (.inr o))) :
  loop step (S 0)=some (match XP f n with | some i=>.inl (res i (f i)) | none=>.inr o):=by
 rcases Qlk f n with ⟨h1,h2⟩ | ⟨i,h1,h2,h3,h4⟩
 ·rw [h1];exact Qgd S n (fun k hk=>by rw [hs k hk fun j hj=>h2 j (by omega),if_pos (h2 k hk)]) (he h2)
 ·rw [h1];exact Qgd S i (fun k hk=>by rw [hs k (by omega) fun j hj=>h4 j (by omega),if_pos (h4 k hk)]) (by rw [hs i h2 h4,if_neg h3])
/-! ### Names -/
def Qhl (q:Int×Nat):Bool:=(!(((decide (97<=q.1))&&(decide (q.1<=122)))||((decide (65<=q.1))&&(decide (q.1<=90)))))&&((decide ((q.2:Int)=0))||((!decide (q.1=45))&&((decide (q.1 < 48))||(decide (57 < q.1)))))
def bi (s:ByteArray):List Int:=bl s
theorem Qlb (s:ByteArray):(bi s).length=s.size:=Qas s
theorem QAb {s:ByteArray} {k:Nat} (h:k < (bi s).length):idx (α:=Int) (bl s) (k:Int)=some (bi s)[k]:=XA (xs:=bi s) h
def Qav (s:ByteArray):Bool:=decide (1<=s.size)&&(decide (s.size<=12)&&!((bi s).zipIdx.any Qhl))
theorem QEl (s:ByteArray):s=ByteArray.mk #[]↔s.size=0:=by
 constructor
 ·intro h;subst h;rfl
 ·intro h;cases s with
  | mk d =>
   congr 1;exact Array.eq_empty_of_size_eq_zero h
theorem Qqe (s:ByteArray):Qfm s=some (Qav s):=by
  unfold Qfm Qav;have hlen:(bi s).zipIdx.length=s.size:=by rw [List.length_zipIdx,Qlb]
  by_cases h:1<=s.size/\s.size<=12
  · have : (decide ((s.size : Int) < 1) || decide (12 < (s.size : Int))) = false := by
      rw [decide_eq_false (by omega),decide_eq_false (by omega)];rfl
    rw [this,cond_false,Y0 (bi s).zipIdx Qhl (fun _ _=>false),Qn]
    · rcases ZY (p:=Qhl) (res:=fun _ _=>false) (bi s).zipIdx 0 with ⟨k1,k2⟩ | ⟨j,x,k1,k2,k3⟩
      · rw [k1,k2];simp [h,Xt]
      · rw [k1,k3];simp [Xt]
    · intro k hk;rw [hlen] at hk;unfold Qqi;rw [XQ hk,cond_true,QAb (show k < (bi s).length by rw [Qlb];exact hk),Qn,XK k (by omega)];simp only [List.getElem_zipIdx,Nat.zero_add];rfl
    · rw [hlen];unfold Qqi;rw [XS];rfl
  · have : (decide ((s.size : Int) < 1) || decide (12 < (s.size : Int))) = true := by
      by_cases h1:s.size < 1
      · rw [decide_eq_true (by omega)];rfl
      · rw [decide_eq_true (p:=12 < (s.size:Int)) (by omega)];simp
    rw [this,cond_true];congr 1;by_cases h1:1<=s.size
    · rw [decide_eq_false (p:=s.size<=12) (by omega)];simp
    · rw [decide_eq_false h1];rfl
theorem Qsv (s:ByteArray) (hs:s.size<=1000):Qfv s=some (Qav s):=by
 unfold Qfv Qav;have hlen:(bi s).zipIdx.length=s.size:=by rw [List.length_zipIdx,Qlb]
 have ht:tob s=some (bl s):=by unfold tob;rw [if_pos (by omega)]
 rw [ht,Qn,Y0 (bi s).zipIdx Qhl (fun _ _=>false),Qn]
 ·rcases ZY (p:=Qhl) (res:=fun _ _=>false) (bi s).zipIdx 0 with ⟨k1,k2⟩ | ⟨j,x,k1,k2,k3⟩
  ·rw [k1,k2];simp only [Xt,Bool.not_false,Bool.and_true,Option.some.injEq];by_cases h0:s.size=0
   ·rw [decide_eq_true ((QEl s).2 h0),decide_eq_false (show ¬ 1<=s.size by omega)];rfl
   ·rw [decide_eq_false (fun e=>h0 ((QEl s).1 e)),decide_eq_true (show 1<=s.size by omega)];simp only [Bool.not_false,Bool.true_and];by_cases h1:s.size<=12
    ·rw [decide_eq_true h1,decide_eq_true (by omega)]
    ·rw [decide_eq_false h1,decide_eq_false (by omega)]
  ·rw [k1,k3];simp [Xt]
 ·intro k hk;rw [hlen] at hk;have hk2:k < (bl s).length:=by rw [Qas];exact hk
  unfold Qtp;rw [XQ hk2,cond_true,QAb (show k < (bi s).length by rw [Qlb];exact hk),Qn,XK k (by omega)];simp only [List.getElem_zipIdx,Nat.zero_add];rfl
 ·rw [hlen,show (s.size:Int)=((bl s).length:Int) by rw [Qas]];unfold Qtp;rw [XS];rfl
theorem Qbv (n lo hi:Int):Z1 n lo hi=some (decide (lo<=n)&&decide (n<=hi)):=rfl
theorem Qso (a b:Int):ZX [a,b]=if a≠0 then a else b:=by
 unfold ZX ZX ZX;by_cases h:a=0<;>by_cases h2:b=0<;>simp [h,h2]
theorem Qfs (a b c:Int):ZX [a,b,c]=if a≠0 then a else if b≠0 then b else c:=by
 unfold ZX ZX ZX ZX;by_cases h:a=0<;>by_cases h2:b=0<;>by_cases h3:c=0<;>simp [h,h2,h3]
theorem Qlj {α:Type} [DecidableEq α]:∀ (a b:List α) (hl:a.length=b.length) (k:Nat),(Xt (Yn (fun (x:α×α)=>!decide (x.1=x.2)) (fun _ _=>false) k (a.zip b)) fun (_:Unit)=>some true)=some (decide (a=b))
 | [],[],_,k=>by simp [Yn,Xt]
 | [],_::_,hl,_=>by simp at hl
 | _::_,[],hl,_=>by simp at hl
 | x::a,y::b,hl,k=>by
  by_cases hxy:x=y
  ·subst hxy;have:=Qlj a b (by simpa using hl) (k+1);simp only [List.zip_cons_cons,Yn];simpa using this
  ·simp [Yn,hxy,Xt]
theorem Qhc {α:Type} {a b:List α} (hl:a.length=b.length):(a.zip b).length=a.length:=by simp [hl]
theorem Z6 {α:Type} (l:List α) (f:α->Int) (k:Nat) (hk:k < l.length):(l[k]?.map f).getD 0=f l[k]:=by rw [List.getElem?_eq_getElem hk];rfl
theorem Qwv {α β:Type} (l:List α) (f:α->β) (k:Nat) (hk:k < l.length):(l.take k).map f++[f l[k]]=(l.take (k+1)).map f:=by
 rw [List.take_add_one,List.getElem?_eq_getElem hk,List.map_append];rfl
theorem Qpu {α β:Type} {a:List α} {b:List β} (hl:a.length=b.length):(a.zip b).length=a.length:=by simp [hl]
theorem Qcr {α:Type} {xs:List α} {k:Nat} (h:k<=xs.length):cut xs 0 (k:Int)=some (xs.take k):=by
 unfold cut;rw [if_pos (by omega),Int.toNat_natCast];rfl
theorem Qyh {α:Type} [DecidableEq α] (l:List α) (v:α):(l.any fun x=>decide (v=x))=decide (v∈l):=by
 rw [Bool.eq_iff_iff];simp
theorem Qyi {α:Type} [DecidableEq α] (l:List α) (v:α):(l.any fun x=>decide (x=v))=decide (v∈l):=by
 rw [Bool.eq_iff_iff];simp
def Qau {α:Type} (p:α->Bool) (l:List α):Int:=match Yn p (fun k _=>(k:Int)) 0 l with | .inl i=>i | .inr _=>(-1:Int)
theorem Qsu {α:Type} (p:α->Bool) (l:List α):decide (0<=Qau p l)=l.any p:=Qjv p l 0
theorem QAh (l:List Int) (v:Int) (hl:l.length < 1000000):Qju l v=some (Qau (fun x=>decide (v=x)) l):=by
 unfold Qju Qau;rw [Y0 l (fun x=>decide (v=x)) (fun k _=>(k:Int)),Qn,Qev]
 ·intro k hk;unfold Qwn;rw [XQ hk,XA hk,XK k (by omega)];rfl
 ·unfold Qwn;rw [XS];rfl
theorem Qfn (l:List Int) (v:Int) (hl:l.length < 1000000):Qbp l v=some (decide (v∈l)):=by
 unfold Qbp;rw [QAh l v hl,Qn,Qsu,Qyh]
end Go.Gw

end
section
set_option maxRecDepth 4096
namespace Go.Gw
open Go
attribute [local irreducible] loop
def ZO (s:ByteArray) (others:List ByteArray):Int:=bif Qav s then (bif Zl others s then 5 else 0) else 4
def Zu (l:List ByteArray) (k:Nat):Int:=(l[k]?.map fun s=>ZO s (l.take k)).getD 0
def YA (p:Nf) (n:Int):Bool:=decide (0<=n)&&decide (n<=(p.Nc.length:Int) - 1)
def swX (p:Nf) (k:Nat) (s:Nt):Int:=bif YA p s.Nm then (bif (p.Nb.take k).any (fun o=>decide (o.Nm=s.Nm)) then 26 else 0) else 6
def swE (p:Nf) (k:Nat) (s:Nt):Int:=if ZO s.Name ((p.Nb.take k).map (·.Name))=0 then swX p k s else ZO s.Name ((p.Nb.take k).map (·.Name))
def ZS (p:Nf) (k:Nat):Int:=(p.Nb[k]?.map (swE p k)).getD 0
def rsE (p:Nf) (r:Nn) (k:Nat) (s:Int):Int:=bif YA p s then (bif decide (s∈r.Nc.take k) then 26 else 0) else 6
def JJ (p:Nf) (r:Nn) (k:Nat):Int:=(r.Nc[k]?.map (rsE p r k)).getD 0
def J2 (r:Nn) (q:Int×Nt):Bool:=bif decide (q.2.Nm∈r.Nc) then !(decide (q.1=0)||decide (q.1=1)) else !decide (q.1=-1)
def rtX (p:Nf) (r:Nn):Int :=
 if r.Nc.length < 2 then 10 else if p.Nc.length < r.Nc.length then 8 else
 match XP (JJ p r) r.Nc.length with
 | some i=>JJ p r i
 | none=>if r.Nq.length=p.Nb.length then (bif (r.Nq.zip p.Nb).any (J2 r) then 2 else 0) else 10
def rtE (p:Nf) (k:Nat) (r:Nn):Int:=if ZO r.Name ((p.Ni.take k).map (·.Name))=0 then rtX p r else ZO r.Name ((p.Ni.take k).map (·.Name))
def ZR (p:Nf) (k:Nat):Int:=(p.Ni[k]?.map (rtE p k)).getD 0
def ZQ (p:Nf):Nr×Int :=
 if p.Nc.length=0\/p.Na.length=0 then (Nr.mk 0 0,10) else if 8 < p.Nc.length\/3 < p.Na.length\/4 < p.Nb.length\/10 < p.Ni.length then (Nr.mk 0 0,8) else
 match XP (Zu p.Nc) p.Nc.length with
 | some i=>(Nr.mk 1 i,Zu p.Nc i)
 | none=>match XP (Zu p.Na) p.Na.length with
  | some i=>(Nr.mk 2 i,Zu p.Na i)
  | none=>match XP (ZS p) p.Nb.length with
   | some i=>(Nr.mk 3 i,ZS p i)
   | none=>match XP (ZR p) p.Ni.length with
    | some i=>(Nr.mk 4 i,ZR p i)
    | none=>(Nr.mk 0 0,0)
structure PlantS (p:Nf):Prop where
 se:p.Nc.length < 1000
 tr:p.Na.length < 1000
 sw:p.Nb.length < 1000
 ro:p.Ni.length < 1000
 sn:∀ s∈p.Nc,s.size<=1000
 tn:∀ s∈p.Na,s.size<=1000
 wn:∀ s∈p.Nb,s.Name.size<=1000
 rn:∀ r∈p.Ni,r.Name.size<=1000/\r.Nc.length < 1000/\r.Nq.length < 1000
theorem Qss {α:Type} (l:List α) (f:α->ByteArray) (k:Nat) (hk:k < l.length) (h:Zl ((l.take k).map f) (f l[k])=false):Jk ((l.take k).map f) (f l[k])=(l.take (k+1)).map f:=by
 unfold Jk;rw [h,if_neg (by simp),Qwv l f k hk]
theorem Qug (s:ByteArray) (others:List ByteArray):ZX [bif Qav s then 0 else 4,bif !(Zl others s) then 0 else 5]=ZO s others:=by
 unfold ZO;cases Qav s<;>cases Zl others s<;>rfl
theorem Quh {s:ByteArray} {others:List ByteArray} (h:ZO s others=0):Zl others s=false:=by
 unfold ZO at h;cases h1:Zl others s with
 | false=>rfl
 | true=>rw [h1] at h;cases h2:Qav s<;>rw [h2] at h<;>cases h
theorem QIf {n m:Int} (h:n≠m):decide (n=m)=false:=decide_eq_false h
theorem QBq (l:List ByteArray) (mark:Int) (hl:l.length < 1000) (hn:∀ s∈l,s.size<=1000):Qip mark l=some (match XP (Zu l) l.length with | some i=>(Nr.mk mark i,Zu l i) | none=>(Nr.mk 0 0,0)):=by
 unfold Qip;have key:loop (Qio l mark) (0,[])=some (match XP (Zu l) l.length with | some i=>.inl (Nr.mk mark i,Zu l i) | none=>.inr ()):=by
  refine Qak (step:=Qio l mark) (fun k=>((k:Int),(l.take k).map id)) l.length (Zu l) (fun i e=>(Nr.mk mark i,e)) () (fun k hk _=>?_) (fun _=>?_)
  ·have hs:Zu l k=ZO l[k] (l.take k):=Z6 _ _ _ hk;have hi:=fun h=>Qss l id k hk h
   simp only [List.map_id,id_eq] at hi ⊢;rw [hs];unfold Qio;simp only [XQ hk,cond_true,XA hk,Qn];rw [show Qtr l[k]=some l[k] from rfl,Qn,Qsv _ (hn _ (List.getElem_mem hk)),Qn];simp only [YK,Qn];rw [ZF _ (by simp),Qn,Qug];by_cases h:ZO l[k] (l.take k)=0
   ·rw [if_pos h,h,hi (Quh h),XK k (by omega)];rfl
   ·rw [if_neg h,QIf h];rfl
  ·unfold Qio;simp only [XS];rfl
 rw [key,Qn];cases XP (Zu l) l.length<;>rfl
theorem QHw (l:List Nt) (s:Nt) (hl:l.length < 1000):Qot l s=some (l.any fun o=>decide (o.Nm=s.Nm)):=by
 unfold Qot Qwh;rw [Y0 l (fun o=>decide (o.Nm=s.Nm)) (fun k _=>(k:Int)),Qn,Qev,Qn,Qjv]
 ·intro k hk;unfold Qwg;rw [XQ hk,XA hk,XK k (by omega)];rfl
 ·unfold Qwg;rw [XS];rfl
theorem QEg (p:Nf) (hp:p.Nc.length < 1000) (n:Int):JC n 0 (w64 ((p.Nc.length:Int) - 1))=some (YA p n):=by
 rw [Qxj,Zf (by omega)];rfl
theorem QVa {p:Nf} (h:PlantS p) (k:Nat) (hk:k < p.Nb.length):Qmy p k=some (swX p k p.Nb[k]):=by
 have h1:=h.sw;unfold Qmy swX;rw [XA hk,Qn,Qcr (by omega),Qn,QHw _ _ (by simp;omega),Qn,QEg p h.se,Qn,YK,Qn,YK,Qn,ZF _ (by simp),Qn];cases YA p p.Nb[k].Nm<;>cases (p.Nb.take k).any (fun o=>decide (o.Nm=p.Nb[k].Nm))<;>rfl
theorem QVb {p:Nf} (h:PlantS p):Qmt 3 p.Nb p=some (match XP (ZS p) p.Nb.length with | some i=>(Nr.mk 3 i,ZS p i) | none=>(Nr.mk 0 0,0)):=by
 have hl:=h.sw;unfold Qmt;have key:loop (Qin p p.Nb 3) (0,[])=some (match XP (ZS p) p.Nb.length with | some i=>.inl (Nr.mk 3 i,ZS p i) | none=>.inr ()):=by
  refine Qak (step:=Qin p p.Nb 3) (fun k=>((k:Int),(p.Nb.take k).map (·.Name))) p.Nb.length (ZS p) (fun i e=>(Nr.mk 3 i,e)) () (fun k hk _=>?_) (fun _=>?_)
  ·have hs:ZS p k=swE p k p.Nb[k]:=Z6 _ _ _ hk;have hi:=fun h=>Qss p.Nb (·.Name) k hk h
   rw [hs];unfold Qin swE;simp only [XQ hk,cond_true,XA hk,Qn];rw [show Qtf p.Nb[k]=some p.Nb[k].Name from rfl,Qn,Qsv _ (h.wn _ (List.getElem_mem hk)),Qn];simp only [YK,Qn];rw [ZF _ (by simp),Qn,Qug,show Qme (k:Int) p=some (swX p k p.Nb[k]) by unfold Qme;rw [QVa h k hk];rfl];by_cases h1:ZO p.Nb[k].Name ((p.Nb.take k).map (·.Name))=0
   ·simp only [h1,hi (Quh h1),if_true,decide_true,Bool.true_and,cond_true,Qn,XK k (show k < 4611686018427387904 by omega)];by_cases h2:swX p k p.Nb[k]=0
    ·simp [h2]
    ·simp [h2]
   ·simp only [h1,if_false,decide_false,Bool.false_and,cond_false,Qn,Bool.not_false,cond_true]
  ·unfold Qin;simp only [XS];rfl
 rw [key,Qn];cases XP (ZS p) p.Nb.length<;>rfl
theorem QSj {p:Nf} (h:PlantS p) (r:Nn) (hr:r.Nc.length < 1000):loop (Qmv r p) 0=some (match XP (JJ p r) r.Nc.length with | some i=>.inl (JJ p r i) | none=>.inr ()) :=
 Qak (fun k=>(k:Int)) r.Nc.length (JJ p r) (fun _ e=>e) () (fun k hk _=>by
  have hs:JJ p r k=rsE p r k r.Nc[k]:=Z6 _ _ _ hk;rw [hs];unfold Qmv rsE;rw [XQ hk,cond_true,XA hk,Qn,Qcr (by omega),Qn,QEg p h.se,Qn,YK,Qn,Qfn _ _ (by simp;omega),Qn,YK,Qn,ZF _ (by simp),Qn,XK k (by omega)];cases YA p r.Nc[k]<;>cases decide (r.Nc[k]∈r.Nc.take k)<;>rfl) (fun _=>by
  unfold Qmv;rw [XS];rfl)
theorem QSi {p:Nf} (r:Nn) (hr:r.Nc.length < 1000) (hn:r.Nq.length < 1000) (he:r.Nq.length=p.Nb.length):loop (Qmw r p) 0=some (Yn (J2 r) (fun _ _=>(2:Int)) 0 (r.Nq.zip p.Nb)) :=
 Y0 (r.Nq.zip p.Nb) _ _ (fun k hk=>by
  rw [Qpu he] at hk;unfold Qmw;rw [XQ hk,cond_true,XA hk,Qn,XA (show k < p.Nb.length by omega),Qn,Qfn _ _ (by omega),Qn,XK k (by omega)];simp only [List.getElem_zip,J2];rw [show Qfw r.Nq[k]=some (decide (r.Nq[k]=0)||decide (r.Nq[k]=1)) from rfl];cases decide (p.Nb[k].Nm∈r.Nc)<;>rfl) (by
  rw [Qpu he];unfold Qmw;rw [XS];rfl)
theorem QSl {p:Nf} (h:PlantS p) (k:Nat) (hk:k < p.Ni.length):Qmx p k=some (rtX p p.Ni[k]):=by
 obtain ⟨_,hr,hn⟩:=h.rn _ (List.getElem_mem hk);have h1:=h.se;have h2:=h.sw;unfold Qmx rtX;rw [XA hk,Qn,YK,Qn,YK,Qn,ZF _ (by simp),Qn];generalize p.Ni[k]=r at hr hn ⊢;by_cases h3:r.Nc.length < 2
 ·rw [if_pos h3,decide_eq_false (show ¬ (2<=(r.Nc.length:Int)) by omega)];rfl
 rw [if_neg h3,decide_eq_true (show 2<=(r.Nc.length:Int) by omega)];by_cases h4:p.Nc.length < r.Nc.length
 ·rw [if_pos h4,decide_eq_false (show ¬ ((r.Nc.length:Int)<=p.Nc.length) by omega)];rfl
 rw [if_neg h4,decide_eq_true (show (r.Nc.length:Int)<=p.Nc.length by omega),QSj h r hr];simp only [ZX,cond_true,if_true,decide_true,Bool.not_true,cond_false,Qn];cases XP (JJ p r) r.Nc.length with
 | some i=>rfl
 | none =>
  simp only [Xt];by_cases h5:r.Nq.length=p.Nb.length
  ·rw [if_pos h5,decide_eq_true (by omega),Bool.not_true,cond_false,QSi r hr hn h5,Qn];rcases ZY (p:=J2 r) (res:=fun _ _=>(2:Int)) (r.Nq.zip p.Nb) 0 with ⟨k1,k2⟩ | ⟨j,x,k1,k2,k3⟩
   ·rw [k1,k2];rfl
   ·rw [k1,k3];rfl
  ·rw [if_neg h5,decide_eq_false (by omega)];rfl
theorem QSx {p:Nf} (h:PlantS p):Qms 4 p.Ni p=some (match XP (ZR p) p.Ni.length with | some i=>(Nr.mk 4 i,ZR p i) | none=>(Nr.mk 0 0,0)):=by
 have hl:=h.ro;unfold Qms;have key:loop (Qim p p.Ni 4) (0,[])=some (match XP (ZR p) p.Ni.length with | some i=>.inl (Nr.mk 4 i,ZR p i) | none=>.inr ()):=by
  refine Qak (step:=Qim p p.Ni 4) (fun k=>((k:Int),(p.Ni.take k).map (·.Name))) p.Ni.length (ZR p) (fun i e=>(Nr.mk 4 i,e)) () (fun k hk _=>?_) (fun _=>?_)
  ·have hs:ZR p k=rtE p k p.Ni[k]:=Z6 _ _ _ hk;have hi:=fun h=>Qss p.Ni (·.Name) k hk h
   rw [hs];unfold Qim rtE;simp only [XQ hk,cond_true,XA hk,Qn];rw [show Qth p.Ni[k]=some p.Ni[k].Name from rfl,Qn,Qsv _ (h.rn _ (List.getElem_mem hk)).1,Qn];simp only [YK,Qn];rw [ZF _ (by simp),Qn,Qug,show Qmf (k:Int) p=some (rtX p p.Ni[k]) by unfold Qmf;rw [QSl h k hk];rfl];by_cases h1:ZO p.Ni[k].Name ((p.Ni.take k).map (·.Name))=0
   ·simp only [h1,hi (Quh h1),if_true,decide_true,Bool.true_and,cond_true,Qn,XK k (show k < 4611686018427387904 by omega)];by_cases h2:rtX p p.Ni[k]=0
    ·simp [h2]
    ·simp [h2]
   ·simp only [h1,if_false,decide_false,Bool.false_and,cond_false,Qn,Bool.not_false,cond_true]
  ·unfold Qim;simp only [XS];rfl
 rw [key,Qn];cases XP (ZR p) p.Ni.length<;>rfl
theorem QHx {p:Nf} (h:PlantS p):Qmg p=some (ZQ p):=by
  unfold Qmg ZQ;rw [YK,Qn,YK,Qn,ZF _ (by simp),Qn];by_cases h1:p.Nc.length=0\/p.Na.length=0
  · rw [if_pos h1, show (decide (0 < (p.Nc.length : Int)) && decide (0 < (p.Na.length : Int))) = false by
      rcases h1 with h1 | h1
      · rw [decide_eq_false (show ¬ (0 < (p.Nc.length:Int)) by omega)];rfl
      · rw [decide_eq_false (show ¬ (0 < (p.Na.length:Int)) by omega),Bool.and_false]]
    rfl
  rw [if_neg h1,decide_eq_true (show 0 < (p.Nc.length:Int) by omega),decide_eq_true (show 0 < (p.Na.length:Int) by omega)];by_cases h2:8 < p.Nc.length\/3 < p.Na.length\/4 < p.Nb.length\/10 < p.Ni.length
  · rw [if_pos h2, show (((decide (8 < (p.Nc.length : Int)) || decide (3 < (p.Na.length : Int))) || decide (4 < (p.Nb.length : Int))) || decide (10 < (p.Ni.length : Int))) = true by
      simp only [Bool.or_eq_true,decide_eq_true_eq];omega]
    rfl
  rw [if_neg h2, show (((decide (8 < (p.Nc.length : Int)) || decide (3 < (p.Na.length : Int))) || decide (4 < (p.Nb.length : Int))) || decide (10 < (p.Ni.length : Int))) = false by
      rw [decide_eq_false (by omega),decide_eq_false (by omega),decide_eq_false (by omega),decide_eq_false (by omega)];rfl]
  unfold Qtd Qte Qtg Qti;rw [QBq _ _ h.se h.sn,QBq _ _ h.tr h.tn,QVb h,QSx h];have hz:∀ {f:Nat->Int} {n i:Nat},XP f n=some i->f i≠0:=fun {f n i} hf=>by
    rcases Qlk f n with ⟨k1,_⟩ | ⟨j,k1,_,k3,_⟩
    · rw [k1] at hf;cases hf
    · rw [k1] at hf;cases hf;exact k3
  simp only [Bool.true_and,Bool.not_false,cond_true,ZX,if_true,decide_true,Bool.not_true,cond_false,Qn];cases h3:XP (Zu p.Nc) p.Nc.length with
  | some i=>simp [hz h3]
  | none =>
    simp only [decide_true,Bool.not_true,cond_false];cases h4:XP (Zu p.Na) p.Na.length with
    | some i=>simp [hz h4]
    | none =>
      simp only [decide_true,Bool.not_true,cond_false];cases h5:XP (ZS p) p.Nb.length with
      | some i=>simp [hz h5]
      | none =>
        simp only [decide_true,Bool.not_true,cond_false];cases h6:XP (ZR p) p.Ni.length with
        | some i=>simp [hz h6]
        | none=>simp
theorem QDa {p:Nf} (h:PlantS p):Qca p=some (ZQ p).2:=by
 unfold Qca;rw [QHx h];rfl
end Go.Gw

end
section
set_option maxRecDepth 4096
namespace Go.Gw
open Go
attribute [local irreducible] loop
theorem Qlf {α:Type} {xs:List α} (h:1<=xs.length):cut xs 1 (xs.length:Int)=some (xs.drop 1):=by
 unfold cut;rw [if_pos (by omega),Int.toNat_natCast,List.take_length];rfl
structure StateS (x:Ng):Prop where
 sw:x.Nb.length < 1000
 tr:x.Na.length < 1000
 ch:∀ t∈x.Na,t.Nd.length < 1000
def Ya (x:Ng) (s:Int):Int:=Qau (fun t:Nk=>decide (s∈t.Nd)) x.Na
def Zm (x:Ng) (s:Int):Bool:=x.Na.any fun t=>decide (s∈t.Nd)
theorem Qls (x:Ng) (s:Int):decide (0<=Ya x s)=Zm x s:=Qsu _ _
theorem QKe (p:Nf) {x:Ng} (h:StateS x) (s:Int):Qmo (some ⟨p,x⟩) s=some (Ya x s):=by
 have h1:=h.tr;unfold Qmo Qwi Ya Qau;rw [Qn];show (Option.bind (Option.bind (loop (Qow s x.Na) 0) _) _)=_;rw [Y0 x.Na (fun t=>decide (s∈t.Nd)) (fun k _=>(k:Int)),Qn,Qev,Qn]
 ·intro k hk;unfold Qow Qtt;rw [XQ hk,cond_true,XA hk,Qn,Qfn _ _ (by have:=h.ch _ (List.getElem_mem hk);omega),Qn,Qn,XK k (by omega)]
 ·unfold Qow;rw [XS];rfl
theorem Qwx (p:Nf) {x:Ng} (h:StateS x) (l:List Int) (hl:l.length < 1000):Qfz (some ⟨p,x⟩) l=some (l.any (Zm x)):=by
 unfold Qfz Qwf Qwk;rw [Y0 l (Zm x) (fun k _=>(k:Int)),Qn,Qev,Qn,Qjv]
 ·rfl
 ·intro k hk;unfold Qwj Qtw;rw [XQ hk,cond_true,XA hk,Qn,QKe p h,Qn,Qn,Qls,XK k (by omega)]
 ·unfold Qwj;rw [XS];rfl
def Qei (secs:List Int) (q:Nt×(Int×Int)):Bool:=decide (q.1.Nm∈secs)&&!decide (q.2.1=q.2.2)
def YN (p:Nf) (sw:List Int) (r:Nn) (secs:List Int):Bool:=!((p.Nb.zip (r.Nq.zip sw)).any (Qei secs))
theorem QUi (α:Type) (p:α->Bool) (l:List α):(Xt (Yn p (fun _ _=>false) 0 l) fun (_:Unit)=>some true)=some (!(l.any p)):=by
 rcases ZY (p:=p) (res:=fun _ _=>false) l 0 with ⟨k1,k2⟩ | ⟨j,x,k1,k2,k3⟩
 ·rw [k1,k2];rfl
 ·rw [k1,k3];rfl
theorem QAq {p:Nf} {x:Ng} {r:Nn} {secs:List Int} (h1:r.Nq.length=p.Nb.length) (h2:x.Nb.length=p.Nb.length) (h3:p.Nb.length < 1000) (hs:secs.length < 1000):Qih (some ⟨p,x⟩) r secs=some (YN p x.Nb r secs):=by
 unfold Qih YN;have hlen:(p.Nb.zip (r.Nq.zip x.Nb)).length=p.Nb.length:=by simp [h1,h2]
 rw [Qn,Y0 (p.Nb.zip (r.Nq.zip x.Nb)) (Qei secs) (fun _ _=>false),Qn,QUi]
 ·intro k hk;rw [hlen] at hk;unfold Qtv;rw [XQ hk,cond_true,XA hk,Qn,Qfn _ _ (by omega),Qn,XK k (by omega)];simp only [Qn];rw [XA (show k < r.Nq.length by omega),XA (show k < x.Nb.length by omega)];simp only [List.getElem_zip,Qei,Qn];cases decide (p.Nb[k].Nm∈secs)<;>rfl
 ·rw [hlen];unfold Qtv;rw [XS];rfl
theorem QIa (l:List Nk) (h:l.length < 1000000):Qor l=some l:=by
 unfold Qor;rw [Jf (by simp;omega)];rfl
theorem Qqq (l:List Int) (h:l.length < 1000000):Qde l=some l:=by
 unfold Qde;rw [Jf (by simp;omega)];rfl
theorem Qbx {α:Type} {xs:List α} {i:Int} (h0:0<=i) (h:i.toNat < xs.length):idx xs i=some xs[i.toNat]:=by
 unfold idx;rw [if_pos h0,List.getElem?_eq_getElem h]
theorem QNo (p:Nf) (x:Ng) {a:Int} (h0:0<=a) (hk:a.toNat < x.Na.length) (hl:x.Na.length < 1000) (c:List Int) (u:Int):Qbz (some ⟨p,x⟩) a c u=some (some ⟨p,⟨x.Nb,x.Na.set a.toNat ⟨c,u⟩,x.Nh⟩⟩):=by
 unfold Qbz;rw [Qn,QIa _ (by show x.Na.length < _;omega),Qn];show Option.bind (idx x.Na a) _=_;rw [Qbx h0 hk,Qn]
theorem QJz (n:Nat) (h:n < 1000000):Qov (n:Int)=some []:=by
 unfold Qov;rw [decide_eq_false (show ¬ (n:Int) < 0 by omega)];simp only [cond_false,Qn,Int.natCast_zero,Int.sub_zero];rw [show w64 (0:Int)=0 from rfl,Int.sub_zero,Zf (by omega)];by_cases h0:0 < (n:Int)
 ·rw [decide_eq_true h0,cond_true];unfold mkZ
  first
  | (rw [if_pos (by omega),Qn];unfold cut;rw [if_pos (by simp)];rfl)
  | skip
 ·rw [decide_eq_false h0];rfl
theorem QId (a b:List Int) (ha:a.length < 1000) (hb:b.length < 1000):Qos [a,b]=some (a++b):=by
 have f0:Qgs [a,b] (0,0)=some (.inl ((a.length:Int),1)):=by
  unfold Qgs;simp only [show decide ((0:Int) < (([a,b]:List (List Int)).length:Int))=true from rfl,cond_true,show idx [a,b] (0:Int)=some a from rfl,Qn,Int.zero_add];rw [Zf (by omega),decide_eq_false (by omega)];rfl
 have f1:Qgs [a,b] ((a.length:Int),1)=some (.inl (((a.length+b.length:Nat):Int),2)):=by
  unfold Qgs;simp only [show decide ((1:Int) < (([a,b]:List (List Int)).length:Int))=true from rfl,cond_true,show idx [a,b] (1:Int)=some b from rfl,Qn];rw [Zf (by omega),decide_eq_false (by omega),show ((a.length:Int)+(b.length:Int))=((a.length+b.length:Nat):Int) by omega];rfl
 have f2:Qgs [a,b] (((a.length+b.length:Nat):Int),2)=some (.inr ((a.length+b.length:Nat):Int)):=rfl;have g0:Qgt [a,b] ([],0)=some (.inl (a,1)):=by
  unfold Qgt;simp only [show decide ((0:Int) < (([a,b]:List (List Int)).length:Int))=true from rfl,cond_true,show idx [a,b] (0:Int)=some a from rfl,Qn];rw [Jf (by simp;omega)];rfl
 have g1:Qgt [a,b] (a,1)=some (.inl (a++b,2)):=by
  unfold Qgt;simp only [show decide ((1:Int) < (([a,b]:List (List Int)).length:Int))=true from rfl,cond_true,show idx [a,b] (1:Int)=some b from rfl,Qn];rw [Jf (by omega)];rfl
 have g2:Qgt [a,b] (a++b,2)=some (.inr (a++b)):=rfl;unfold Qos;rw [Qbk f0,Qbk f1,Qbl f2,Qn,QJz _ (by omega),Qn,Qbk g0,Qbk g1,Qbl g2,Qn]
/-! ### Events -/
def J8 (p:Nf) (n:Int):Bool:=decide (0<=n)&&decide (n<=(p.Na.length:Int) - 1)
def Qdg (p:Nf) (n:Int):Bool:=decide (0<=n)&&decide (n<=(p.Nb.length:Int) - 1)
def Qdd (p:Nf) (n:Int):Bool:=decide (0<=n)&&decide (n<=(p.Ni.length:Int) - 1)
def YW (n:Int):Bool:=decide (n=0)||decide (n=1)
def Yt (p:Nf) (e:Nj):Int :=
 if ¬ (0<=e.Kind/\e.Kind<=6) then 15 else if e.Kind=2 then (bif Qdg p e.A then (bif YW e.B then 0 else 2) else 6) else
 bif J8 p e.A then (if e.Kind=0 then (bif YA p e.B then 0 else 6) else if e.Kind=1 then (bif Qdd p e.B then 0 else 6) else if e.B=0 then 0 else 3) else 6
theorem Qmc {n:Int} {k:Nat} (hk:k < 1000):JC n 0 (w64 ((k:Int) - 1))=some (decide (0<=n)&&decide (n<=(k:Int) - 1)):=by
 rw [Qxj,Zf (by omega)]
theorem QEh {p:Nf} (h:PlantS p) (n:Int):Qiq p n=some (bif YA p n then 0 else 6):=by
 unfold Qiq;rw [Qmc h.se,Qn,YK];rfl
theorem QVx {p:Nf} (h:PlantS p) (n:Int):Qmz p n=some (bif J8 p n then 0 else 6):=by
 unfold Qmz;rw [Qmc h.tr,Qn,YK];rfl
theorem Qzn {p:Nf} (h:PlantS p) (e:Nj):Qfu p e=some (Yt p e):=by
  unfold Qfu Yt;rw [QKm,Qn];by_cases hk:0<=e.Kind/\e.Kind<=6
  · rw [if_neg (by omega),show (decide (0<=e.Kind)&&decide (e.Kind<=6))=true by simp [hk.1,hk.2]];simp only [Bool.not_true,cond_false];by_cases h2:e.Kind=2
    · rw [if_pos h2,decide_eq_true h2,cond_true,Qmc h.sw,Qn,YK,Qn,show Qfw e.B=some (YW e.B) from rfl,Qn,YK,Qn,ZF _ (by simp),Qn];show some (ZX [bif Qdg p e.A then 0 else 6,_])=_;cases Qdg p e.A<;>cases YW e.B<;>rfl
    · rw [if_neg h2,decide_eq_false h2,cond_false,YK,Qn,QEh h,Qn,Qmc h.ro,Qn,YK,Qn,QVx h];show (Option.bind (bif decide (e.Kind=0) then some (bif YA p e.B then 0 else 6) else bif decide (e.Kind=1) then some (bif Qdd p e.B then 0 else 6) else some _) _)=_;by_cases h0:e.Kind=0
      · rw [if_pos h0,decide_eq_true h0,cond_true,Qn,Qn,ZF _ (by simp),Qn];cases J8 p e.A<;>cases YA p e.B<;>rfl
      · rw [if_neg h0,decide_eq_false h0,cond_false];by_cases h1:e.Kind=1
        · rw [if_pos h1,decide_eq_true h1,cond_true,Qn,Qn,ZF _ (by simp),Qn];cases J8 p e.A<;>cases Qdd p e.B<;>rfl
        · rw [if_neg h1,decide_eq_false h1,cond_false,Qn,Qn,ZF _ (by simp),Qn];by_cases h3:e.B=0
          · rw [if_pos h3,decide_eq_true h3];cases J8 p e.A<;>rfl
          · rw [if_neg h3,decide_eq_false h3];cases J8 p e.A<;>rfl
  · rw [if_pos hk, show (decide (0 <= e.Kind) && decide (e.Kind <= 6)) = false by
      rw [Bool.and_eq_false_iff,decide_eq_false_iff_not,decide_eq_false_iff_not];omega]
    rfl
def ZK (x:Ng) (e:Nj):Nk:=x.Na[e.A.toNat]?.getD ⟨[],0⟩
def Qey (p:Nf) (e:Nj):Nt:=p.Nb[e.A.toNat]?.getD ⟨ByteArray.mk #[],0⟩
def J6 (p:Nf) (e:Nj):Nn:=p.Ni[e.B.toNat]?.getD ⟨ByteArray.mk #[],[],[]⟩
def Zw (p:Nf) (x:Ng) (e:Nj):Int :=
 if e.Kind=2 then (bif Zm x (Qey p e).Nm then 17 else 0) else
 if e.Kind=0 then (if (ZK x e).Nd.length=0 then (bif Zm x e.B then 17 else 0) else 22) else
 if (ZK x e).Nd.length=0 then 22 else
 if e.Kind=1 then (if (J6 p e).Nc.head?=(ZK x e).Nd.getLast? then (bif ((J6 p e).Nc.drop 1).any (Zm x) then 17 else bif YN p x.Nb (J6 p e) (J6 p e).Nc then 0 else 13) else 23) else
 if e.Kind=4 then (if 1 < (ZK x e).Nl then 0 else 12) else
 if e.Kind=3\/e.Kind=5 then (if (ZK x e).Nl < (ZK x e).Nd.length then 0 else 12) else
 if (ZK x e).Nd.length=1 then 0 else 17
def trX (p:Nf) (t:Nk) (e:Nj):Nk :=
 if e.Kind=0 then ⟨[e.B],1⟩ else if e.Kind=1 then ⟨t.Nd++(J6 p e).Nc.drop 1,t.Nl⟩ else if e.Kind=3 then ⟨t.Nd,t.Nl+1⟩ else
 if e.Kind=4 then ⟨t.Nd.drop 1,t.Nl - 1⟩ else if e.Kind=5 then ⟨t.Nd.take (t.Nd.length - 1),t.Nl⟩ else ⟨[],0⟩
def Jb (p:Nf) (x:Ng) (e:Nj):Ng :=
 if e.Kind=2 then ⟨x.Nb.set e.A.toNat e.B,x.Na,x.Nh⟩ else ⟨x.Nb,x.Na.set e.A.toNat (trX p (ZK x e) e),x.Nh⟩
end Go.Gw

end
section
set_option maxRecDepth 4096
namespace Go.Gw
open Go
attribute [local irreducible] loop
theorem Qib {f:Nat->Int} {n:Nat} (h:XP f n=none):∀ j,j < n->f j=0:=by
 rcases Qlk f n with ⟨_,h2⟩ | ⟨i,h1,_⟩
 ·exact h2
 ·rw [h1] at h;cases h
theorem Qah {f:Nat->Int} {n i:Nat} (h:XP f n=some i):i < n/\f i≠0/\∀ j,j < i->f j=0:=by
 rcases Qlk f n with ⟨h1,_⟩ | ⟨j,h1,h2,h3,h4⟩
 ·rw [h1] at h;cases h
 ·rw [h1] at h;cases h;exact ⟨h2,h3,h4⟩
theorem QJo {f:Nat->Int} {n:Nat} (h:∀ j,j < n->f j=0):XP f n=none:=by
 cases hf:XP f n with
 | none=>rfl
 | some i=>obtain ⟨h1,h2,_⟩:=Qah hf;exact absurd (h i h1) h2
theorem QCm {α:Type} {l:List α} (h:∀ k (hk:k < l.length),l[k]∉l.take k):l.Nodup:=by
 unfold List.Nodup;rw [List.pairwise_iff_getElem];intro i j hi hj hij e;refine h j hj ?_;rw [<-e];exact List.mem_take_iff_getElem.2 ⟨i,by omega,rfl⟩
theorem QQf {α:Type} {l:List α} (h:l.Nodup) {k:Nat} (hk:k < l.length):l[k]∉l.take k:=by
 intro hm;obtain ⟨i,hi,e⟩:=List.mem_take_iff_getElem.1 hm;unfold List.Nodup at h;rw [List.pairwise_iff_getElem] at h;exact h i k (by omega) hk (by omega) e
structure PlantOk (p:Nf):Prop where
 s1:1<=p.Nc.length
 s8:p.Nc.length<=8
 t1:1<=p.Na.length
 t3:p.Na.length<=3
 w4:p.Nb.length<=4
 r10:p.Ni.length<=10
 ws:∀ s∈p.Nb,YA p s.Nm=true
 r2:∀ r∈p.Ni,2<=r.Nc.length
 r8:∀ r∈p.Ni,r.Nc.length<=p.Nc.length
 rs:∀ r∈p.Ni,∀ s∈r.Nc,YA p s=true
 rd:∀ r∈p.Ni,r.Nc.Nodup
 rn:∀ r∈p.Ni,r.Nq.length=p.Nb.length
 rx:∀ r∈p.Ni,(r.Nq.zip p.Nb).any (J2 r)=false
theorem Qgn {p:Nf} {r:Nn} (h:rtX p r=0):2<=r.Nc.length/\r.Nc.length<=p.Nc.length/\(∀ s∈r.Nc,YA p s=true)/\r.Nc.Nodup/\r.Nq.length=p.Nb.length/\(r.Nq.zip p.Nb).any (J2 r)=false:=by
 unfold rtX at h;by_cases h1:r.Nc.length < 2
 ·rw [if_pos h1] at h;cases h
 rw [if_neg h1] at h;by_cases h2:p.Nc.length < r.Nc.length
 ·rw [if_pos h2] at h;cases h
 rw [if_neg h2] at h;cases hf:XP (JJ p r) r.Nc.length with
 | some i=>rw [hf] at h;exact absurd h (Qah hf).2.1
 | none =>
  rw [hf] at h;have hz:∀ k (hk:k < r.Nc.length),rsE p r k r.Nc[k]=0:=fun k hk=>by
   have:=Qib hf k hk;rwa [show JJ p r k=rsE p r k r.Nc[k] from Z6 _ _ _ hk] at this
  have hz2:∀ k (hk:k < r.Nc.length),YA p r.Nc[k]=true/\r.Nc[k]∉r.Nc.take k:=fun k hk=>by
   have:=hz k hk;unfold rsE at this;cases hb:YA p r.Nc[k] with
   | false=>rw [hb] at this;cases this
   | true =>
    rw [hb,cond_true] at this;refine ⟨rfl,fun hm=>?_⟩;rw [decide_eq_true hm] at this;cases this
  have h3:r.Nq.length=p.Nb.length/\(r.Nq.zip p.Nb).any (J2 r)=false:=by
   by_cases h5:r.Nq.length=p.Nb.length
   ·simp only [h5,if_true] at h;refine ⟨h5,?_⟩;cases hb:(r.Nq.zip p.Nb).any (J2 r) with
    | false=>rfl
    | true=>rw [hb] at h;cases h
   ·simp only [h5,if_false] at h;cases h
  refine ⟨by omega,by omega,fun s hs=>?_,QCm fun k hk=>(hz2 k hk).2,h3.1,h3.2⟩;obtain ⟨k,hk,rfl⟩:=List.getElem_of_mem hs;exact (hz2 k hk).1
theorem Qnk {p:Nf} (h:(ZQ p).2=0):PlantOk p:=by
 unfold ZQ at h;by_cases h1:p.Nc.length=0\/p.Na.length=0
 ·rw [if_pos h1] at h;cases h
 rw [if_neg h1] at h;by_cases h2:8 < p.Nc.length\/3 < p.Na.length\/4 < p.Nb.length\/10 < p.Ni.length
 ·rw [if_pos h2] at h;cases h
 rw [if_neg h2] at h;cases h3:XP (Zu p.Nc) p.Nc.length with
 | some i=>rw [h3] at h;exact absurd h (Qah h3).2.1
 | none =>
  rw [h3] at h;cases h4:XP (Zu p.Na) p.Na.length with
  | some i=>rw [h4] at h;exact absurd h (Qah h4).2.1
  | none =>
   rw [h4] at h;cases h5:XP (ZS p) p.Nb.length with
   | some i=>rw [h5] at h;exact absurd h (Qah h5).2.1
   | none =>
    rw [h5] at h;cases h6:XP (ZR p) p.Ni.length with
    | some i=>rw [h6] at h;exact absurd h (Qah h6).2.1
    | none =>
     have hr:∀ r∈p.Ni,rtX p r=0:=fun r hr=>by
      obtain ⟨k,hk,rfl⟩:=List.getElem_of_mem hr;have:=Qib h6 k hk;rw [show ZR p k=rtE p k p.Ni[k] from Z6 _ _ _ hk] at this;unfold rtE at this;by_cases hn:ZO p.Ni[k].Name ((p.Ni.take k).map (·.Name))=0
      ·rwa [if_pos hn] at this
      ·rw [if_neg hn] at this;exact absurd this hn
     refine ⟨by omega,by omega,by omega,by omega,by omega,by omega,fun s hs=>?_,fun r h=>(Qgn (hr r h)).1,fun r h=>(Qgn (hr r h)).2.1,fun r h=>(Qgn (hr r h)).2.2.1,fun r h=>(Qgn (hr r h)).2.2.2.1,fun r h=>(Qgn (hr r h)).2.2.2.2.1,fun r h=>(Qgn (hr r h)).2.2.2.2.2⟩;obtain ⟨k,hk,rfl⟩:=List.getElem_of_mem hs;have:=Qib h5 k hk;rw [show ZS p k=swE p k p.Nb[k] from Z6 _ _ _ hk] at this;unfold swE at this;by_cases hn:ZO p.Nb[k].Name ((p.Nb.take k).map (·.Name))=0
     ·rw [if_pos hn] at this;unfold swX at this;cases hb:YA p p.Nb[k].Nm with
      | true=>rfl
      | false=>rw [hb] at this;cases this
     ·rw [if_neg hn] at this;exact absurd this hn
def Ja (r:Nn) (a b:Int):Bool:=(r.Nc.zip (r.Nc.drop 1)).any fun q=>decide (q.1=a)&&decide (q.2=b)
def J1 (p:Nf) (sw:List Int) (a b:Int):Bool:=p.Ni.any fun r=>Ja r a b&&YN p sw r [a,b]
theorem pairB_iff {r:Nn} {a b:Int}:Ja r a b=true↔∃ k,∃ hk:k+1 < r.Nc.length,r.Nc[k]=a/\r.Nc[k+1]=b:=by
 unfold Ja;rw [List.any_eq_true];constructor
 ·rintro ⟨q,hq,h⟩;obtain ⟨k,hk,rfl⟩:=List.getElem_of_mem hq;simp only [List.length_zip,List.length_drop] at hk;simp only [List.getElem_zip,List.getElem_drop,Bool.and_eq_true,decide_eq_true_eq] at h;refine ⟨k,by omega,h.1,?_⟩;rw [<-h.2];congr 1;omega
 ·rintro ⟨k,hk,h1,h2⟩;refine ⟨(r.Nc[k],r.Nc[k+1]),?_,by simp [h1,h2]⟩;rw [List.mem_iff_getElem];refine ⟨k,by simp only [List.length_zip,List.length_drop];omega,?_⟩;simp only [List.getElem_zip,List.getElem_drop,Prod.mk.injEq,true_and];congr 1;omega
structure StateOk (p:Nf) (x:Ng):Prop where
 sw:x.Nb.length=p.Nb.length
 tr:x.Na.length=p.Na.length
 pos:∀ n∈x.Nb,YW n=true
 cnt:Qbg x.Nh=true
 un:∀ t∈x.Na,(t.Nd=[]/\t.Nl=0)\/(1<=t.Nl/\t.Nl<=t.Nd.length)
 sc:∀ t∈x.Na,∀ s∈t.Nd,YA p s=true
 nd:∀ t∈x.Na,t.Nd.Nodup
 dj:∀ i j (hi:i < x.Na.length) (hj:j < x.Na.length),i≠j->∀ s∈x.Na[i].Nd,s∉x.Na[j].Nd
 ld:∀ t∈x.Na,∀ k (hk:k+1 < t.Nd.length),J1 p x.Nb t.Nd[k] t.Nd[k+1]=true
theorem QCl:∀ (n:Nat) (l:List Int),l.Nodup->(∀ s∈l,0<=s/\s < (n:Int))->l.length<=n
  | 0,l,_,h=>by
    cases l with
    | nil=>simp
    | cons x xs=>have:=h x (by simp);omega
  | n+1,l,hn,h=>by
    have h1:=QCl n (l.filter fun s=>decide (s≠(n:Int))) (hn.filter _) fun s hs=>by
      rw [List.mem_filter] at hs;have:=h s hs.1;have:=hs.2;simp at this;omega
    have h2:l.length<=(l.filter fun s=>decide (s≠(n:Int))).length+1:=by
      clear h h1
      induction l with
      | nil=>simp
      | cons x xs ih =>
        rw [List.nodup_cons] at hn;by_cases hx:x=(n:Int)
        · have : xs.filter (fun s => decide (s ≠ (n : Int))) = xs := by
            rw [List.filter_eq_self];intro a ha;simp only [ne_eq,decide_not,Bool.not_eq_true',decide_eq_false_iff_not];intro e;subst hx;subst e;exact hn.1 ha
          rw [List.filter_cons_of_neg (by simp [hx]),this];simp
        · rw [List.filter_cons_of_pos (by simp [hx])];have:=ih hn.2;simp only [List.length_cons];omega
    omega
theorem StateOk.len {p:Nf} {x:Ng} (h:StateOk p x) {t:Nk} (ht:t∈x.Na):t.Nd.length<=p.Nc.length :=
 QCl _ _ (h.nd t ht) fun s hs=>by
  have:=h.sc t ht s hs;unfold YA at this;simp at this;omega
theorem StateOk.s {p:Nf} (hp:PlantOk p) {x:Ng} (h:StateOk p x):StateS x :=
 ⟨by have:=h.sw;have:=hp.w4;omega,by have:=h.tr;have:=hp.t3;omega,fun t ht=>by have:=h.len ht;have:=hp.s8;omega⟩
end Go.Gw

end
section
set_option maxRecDepth 4096
namespace Go.Gw
open Go
attribute [local irreducible] loop
theorem liesB_iff {p:Nf} {sw:List Int} {r:Nn} {secs:List Int}:YN p sw r secs=true↔∀ k (h1:k < p.Nb.length) (h2:k < r.Nq.length) (h3:k < sw.length),p.Nb[k].Nm∈secs->r.Nq[k]=sw[k]:=by
  unfold YN;rw [Bool.not_eq_true',List.any_eq_false];constructor
  · intro h k h1 h2 h3 hm;have:=h (p.Nb[k],(r.Nq[k],sw[k])) (by
      rw [List.mem_iff_getElem];exact ⟨k,by simp only [List.length_zip];omega,by simp only [List.getElem_zip]⟩)
    simp only [Qei,hm,decide_true,Bool.true_and,Bool.not_eq_true',decide_eq_false_iff_not,Decidable.not_not] at this;exact this
  · intro h q hq;obtain ⟨k,hk,rfl⟩:=List.getElem_of_mem hq;simp only [List.length_zip] at hk;simp only [List.getElem_zip,Qei,Bool.and_eq_true,decide_eq_true_eq,Bool.not_eq_true',decide_eq_false_iff_not,not_and,Decidable.not_not];exact fun hm=>h k (by omega) (by omega) (by omega) hm
theorem QKz {p:Nf} {sw:List Int} {r:Nn} {a b:List Int} (h:YN p sw r a=true) (hs:∀ s∈b,s∈a):YN p sw r b=true :=
 liesB_iff.2 fun k h1 h2 h3 hm=>liesB_iff.1 h k h1 h2 h3 (hs _ hm)
theorem QLa {p:Nf} {sw:List Int} {r:Nn} {a:List Int} {i:Nat} {v:Int} (hi:∀ h:i < p.Nb.length,p.Nb[i].Nm∉a) (h:YN p sw r a=true):YN p (sw.set i v) r a=true :=
 liesB_iff.2 fun k h1 h2 h3 hm=>by
  have hne:i≠k:=fun e=>by subst e;exact hi h1 hm
  rw [List.getElem_set_ne hne];exact liesB_iff.1 h k h1 h2 (by simpa using h3) hm
theorem leadsB_iff {p:Nf} {sw:List Int} {a b:Int}:J1 p sw a b=true↔∃ r∈p.Ni,Ja r a b=true/\YN p sw r [a,b]=true:=by
 unfold J1;rw [List.any_eq_true];simp only [Bool.and_eq_true]
theorem Qww {x:Ng} {s:Int} (h:Zm x s=false):∀ t∈x.Na,s∉t.Nd:=by
 unfold Zm at h;rw [List.any_eq_false] at h;intro t ht hm;exact h t ht (decide_eq_true hm)
theorem Qgr {p:Nf} {x:Ng} (h:StateOk p x) {a:Nat} (ha:a < x.Na.length) {t:Nk} (h1:(t.Nd=[]/\t.Nl=0)\/(1<=t.Nl/\t.Nl<=t.Nd.length)) (h2:∀ s∈t.Nd,YA p s=true) (h3:t.Nd.Nodup)
  (h4:∀ j (hj:j < x.Na.length),j≠a->∀ s∈t.Nd,s∉x.Na[j].Nd) (h5:∀ k (hk:k+1 < t.Nd.length),J1 p x.Nb t.Nd[k] t.Nd[k+1]=true):StateOk p ⟨x.Nb,x.Na.set a t,x.Nh⟩:=by
 have hm:∀ u∈x.Na.set a t,u=t\/u∈x.Na:=fun u hu=>by
  rcases List.mem_or_eq_of_mem_set hu with h | h
  ·exact .inr h
  ·exact .inl h
 refine ⟨h.sw,by simpa using h.tr,h.pos,h.cnt,fun u hu=>?_,fun u hu=>?_,fun u hu=>?_,fun i j hi hj hij s hs=>?_,fun u hu=>?_⟩
 ·rcases hm u hu with rfl | hu
  ·exact h1
  ·exact h.un u hu
 ·rcases hm u hu with rfl | hu
  ·exact h2
  ·exact h.sc u hu
 ·rcases hm u hu with rfl | hu
  ·exact h3
  ·exact h.nd u hu
 ·simp only [List.length_set] at hi hj;simp only [List.getElem_set] at hs ⊢;by_cases h6:a=i
  ·rw [if_pos h6] at hs;rw [if_neg (by omega)];exact h4 j hj (by omega) s hs
  ·rw [if_neg h6] at hs;by_cases h7:a=j
   ·rw [if_pos h7];exact fun hm=>h4 i hi (by omega) s hm hs
   ·rw [if_neg h7];exact h.dj i j hi hj hij s hs
 ·rcases hm u hu with rfl | hu
  ·exact h5
  ·exact h.ld u hu
theorem Qia {p:Nf} {e:Nj} (h:Yt p e=0):0<=e.Kind/\e.Kind<=6:=by
 unfold Yt at h;by_cases h1:¬ (0<=e.Kind/\e.Kind<=6)
 ·rw [if_pos h1] at h;cases h
 ·omega
theorem Qrd {p:Nf} {e:Nj} (h:Yt p e=0) (hk:e.Kind=2):0<=e.A/\e.A.toNat < p.Nb.length/\YW e.B=true:=by
 have h1:=Qia h;unfold Yt at h;rw [if_neg (by omega),if_pos hk] at h;cases hb:Qdg p e.A with
 | false=>rw [hb] at h;cases h
 | true =>
  rw [hb] at h;cases hc:YW e.B with
  | false=>rw [hc] at h;cases h
  | true =>
   unfold Qdg at hb;simp at hb;exact ⟨hb.1,by omega,rfl⟩
theorem Qrc {p:Nf} {e:Nj} (h:Yt p e=0) (hk:e.Kind≠2):0<=e.A/\e.A.toNat < p.Na.length/\(e.Kind=0->YA p e.B=true)/\(e.Kind=1->0<=e.B/\e.B.toNat < p.Ni.length)/\(e.Kind≠0->e.Kind≠1->e.B=0):=by
 have h1:=Qia h;unfold Yt at h;rw [if_neg (by omega),if_neg hk] at h;cases hb:J8 p e.A with
 | false=>rw [hb] at h;cases h
 | true =>
  rw [hb,cond_true] at h;unfold J8 at hb;simp at hb;refine ⟨hb.1,by omega,fun h0=>?_,fun h0=>?_,fun h0 h2=>?_⟩
  ·rw [if_pos h0] at h;cases hc:YA p e.B with
   | true=>rfl
   | false=>rw [hc] at h;cases h
  ·rw [if_neg (by omega),if_pos h0] at h;cases hc:Qdd p e.B with
   | false=>rw [hc] at h;cases h
   | true=>unfold Qdd at hc;simp at hc;omega
  ·rw [if_neg h0,if_neg h2] at h;by_cases h3:e.B=0
   ·exact h3
   ·rw [if_neg h3] at h;cases h
theorem Qgy {x:Ng} {e:Nj} (h:e.A.toNat < x.Na.length):ZK x e=x.Na[e.A.toNat]:=by
 unfold ZK;rw [List.getElem?_eq_getElem h];rfl
theorem Qwu {p:Nf} {e:Nj} (h:e.A.toNat < p.Nb.length):Qey p e=p.Nb[e.A.toNat]:=by
 unfold Qey;rw [List.getElem?_eq_getElem h];rfl
theorem Qjk {p:Nf} {e:Nj} (h:e.B.toNat < p.Ni.length):J6 p e=p.Ni[e.B.toNat]:=by
 unfold J6;rw [List.getElem?_eq_getElem h];rfl
theorem QEw {p:Nf} (hp:PlantOk p) {x:Ng} (h:StateOk p x) {e:Nj} (he:Yt p e=0) (hs:Zw p x e=0):StateOk p (Jb p x e):=by
  have hk:=Qia he;unfold Jb;by_cases h2:e.Kind=2
  · rw [if_pos h2];obtain ⟨a0,a1,a2⟩:=Qrd he h2;unfold Zw at hs;rw [if_pos h2] at hs;have hn:Zm x (Qey p e).Nm=false:=by
      cases hb:Zm x (Qey p e).Nm with
      | false=>rfl
      | true=>rw [hb] at hs;cases hs
    rw [Qwu a1] at hn;refine ⟨by simpa using h.sw,h.tr,fun n hn=>?_,h.cnt,h.un,h.sc,h.nd,h.dj,fun t ht k hk=>?_⟩
    · rcases List.mem_or_eq_of_mem_set hn with h3 | rfl
      · exact h.pos n h3
      · exact a2
    · obtain ⟨r,hr,h3,h4⟩:=leadsB_iff.1 (h.ld t ht k hk);refine leadsB_iff.2 ⟨r,hr,h3,QLa (fun hi hm=>?_) h4⟩;have h5:=Qww hn t ht;rcases List.mem_cons.1 hm with e1 | hm
      · rw [e1] at h5;exact h5 (List.getElem_mem _)
      · rw [List.mem_singleton.1 hm] at h5;exact h5 (List.getElem_mem _)
  rw [if_neg h2];obtain ⟨a0,a1,a2,a3,a4⟩:=Qrc he h2;have ha:e.A.toNat < x.Na.length:=by rw [h.tr];exact a1
  have ht:ZK x e∈x.Na:=by rw [Qgy ha];exact List.getElem_mem ha
  have hd:∀ j (hj:j < x.Na.length),j≠e.A.toNat->∀ s∈(ZK x e).Nd,s∉x.Na[j].Nd:=fun j hj hne s hs=>by
    rw [Qgy ha] at hs;exact h.dj _ j ha hj (by omega) s hs
  have hu:=h.un _ ht;have hsc:=h.sc _ ht;have hnd:=h.nd _ ht;have hld:=h.ld _ ht;unfold Zw at hs;rw [if_neg h2] at hs;unfold trX;generalize ZK x e=t at *
  by_cases h0:e.Kind=0
  · rw [if_pos h0] at hs;rw [if_pos h0];by_cases hc:t.Nd.length=0
    · rw [if_pos hc] at hs;have hn:Zm x e.B=false:=by
        cases hb:Zm x e.B with
        | false=>rfl
        | true=>rw [hb] at hs;cases hs
      refine Qgr h ha (.inr (by simp)) (fun s hs=>?_) (by simp) (fun j hj hne s hs hm=>?_) (fun k hk=>?_)
      · simp only [List.mem_singleton] at hs;subst hs;exact a2 h0
      · simp only [List.mem_singleton] at hs;subst hs;exact Qww hn _ (List.getElem_mem hj) hm
      · simp at hk
    · rw [if_neg hc] at hs;cases hs
  rw [if_neg h0] at hs;rw [if_neg h0];by_cases hc:t.Nd.length=0
  · rw [if_pos hc] at hs;cases hs
  rw [if_neg hc] at hs;have hu2:1<=t.Nl/\t.Nl<=t.Nd.length:=by
    rcases hu with ⟨h3,_⟩ | h3
    · rw [h3] at hc;exact absurd rfl hc
    · exact h3
  by_cases h1:e.Kind=1
  · rw [if_pos h1] at hs;rw [if_pos h1];obtain ⟨b0,b1⟩:=a3 h1;have hr:J6 p e∈p.Ni:=by rw [Qjk b1];exact List.getElem_mem b1
    generalize J6 p e=r at *
    by_cases h3:r.Nc.head?=t.Nd.getLast?
    · rw [if_pos h3] at hs;have hn:(r.Nc.drop 1).any (Zm x)=false:=by
        cases hb:(r.Nc.drop 1).any (Zm x) with
        | false=>rfl
        | true=>rw [hb] at hs;cases hs
      have hl:YN p x.Nb r r.Nc=true:=by
        rw [hn] at hs;cases hb:YN p x.Nb r r.Nc with
        | true=>rfl
        | false=>rw [hb] at hs;cases hs
      rw [List.any_eq_false] at hn;have hn2:∀ s∈r.Nc.drop 1,∀ u∈x.Na,s∉u.Nd:=fun s hs=>Qww (by have:=hn s hs;simpa using this)
      have h2r:=hp.r2 r hr;have hlast:∀ hi:t.Nd.length - 1 < t.Nd.length,∀ hj:0 < r.Nc.length,t.Nd[t.Nd.length - 1]=r.Nc[0]:=fun hi hj=>by
        rw [List.head?_eq_getElem?,List.getLast?_eq_getElem?,List.getElem?_eq_getElem hj,List.getElem?_eq_getElem hi] at h3;exact (Option.some.inj h3).symm
      refine Qgr h ha (.inr ?_) (fun s hs=>?_) ?_ (fun j hj hne s hs=>?_) (fun k hk=>?_)
      · simp only [List.length_append];omega
      · rcases List.mem_append.1 hs with h4 | h4
        · exact hsc s h4
        · exact hp.rs r hr s (List.mem_of_mem_drop h4)
      · show (t.Nd++r.Nc.drop 1).Nodup;rw [List.nodup_append];refine ⟨hnd,List.Nodup.sublist (List.drop_sublist _ _) (hp.rd r hr),fun s hs u hu e=>?_⟩;subst e;exact hn2 s hu t ht hs
      · rcases List.mem_append.1 hs with h4 | h4
        · exact hd j hj hne s h4
        · exact hn2 s h4 _ (List.getElem_mem hj)
      · simp only [List.length_append,List.length_drop] at hk;by_cases h5:k+1 < t.Nd.length
        · simp only [List.getElem_append,h5,dif_pos,show k < t.Nd.length by omega];exact hld k h5
        · have e2 : (t.Nd ++ r.Nc.drop 1)[k + 1]'(by simp only [List.length_append, List.length_drop]; omega) = r.Nc[k + 1 - t.Nd.length + 1]'(by omega) := by
            rw [List.getElem_append_right (by omega),List.getElem_drop];congr 1;omega
          have e1:(t.Nd++r.Nc.drop 1)[k]'(by simp only [List.length_append, List.length_drop];omega)=r.Nc[k+1 - t.Nd.length]'(by omega) := by
            by_cases h6:k+1=t.Nd.length
            · rw [List.getElem_append_left (show k < t.Nd.length by omega)];have:=hlast (by omega) (by omega);simp only [show k+1 - t.Nd.length=0 by omega,<-this];congr 1;omega
            · rw [List.getElem_append_right (by omega),List.getElem_drop];congr 1;omega
          rw [e1,e2];refine leadsB_iff.2 ⟨r,hr,pairB_iff.2 ⟨k+1 - t.Nd.length,by omega,rfl,rfl⟩,QKz hl fun s hs=>?_⟩;rcases List.mem_cons.1 hs with rfl | hs
          · exact List.getElem_mem _
          · rw [List.mem_singleton.1 hs];exact List.getElem_mem _
    · rw [if_neg h3] at hs;cases hs
  rw [if_neg h1] at hs;rw [if_neg h1];by_cases h4:e.Kind=4
  · rw [if_pos h4] at hs;rw [if_neg (by omega),if_pos h4];have hx:1 < t.Nl:=by
      by_cases h5:1 < t.Nl
      · exact h5
      · rw [if_neg h5] at hs;cases hs
    refine Qgr h ha (.inr ?_) (fun s hs=>hsc s (List.mem_of_mem_drop hs)) (List.Nodup.sublist (List.drop_sublist _ _) hnd) (fun j hj hne s hs=>hd j hj hne s (List.mem_of_mem_drop hs)) (fun k hk=>?_)
    · simp only [List.length_drop];omega
    · simp only [List.length_drop] at hk;simp only [List.getElem_drop];have:=hld (1+k) (by omega);exact this
  rw [if_neg h4] at hs;rw [show (if e.Kind=4 then (⟨t.Nd.drop 1,t.Nl - 1⟩:Nk) else if e.Kind=5 then ⟨t.Nd.take (t.Nd.length - 1),t.Nl⟩ else ⟨[],0⟩)=(if e.Kind=5 then ⟨t.Nd.take (t.Nd.length - 1),t.Nl⟩ else ⟨[],0⟩) from if_neg h4];by_cases h35:e.Kind=3\/e.Kind=5
  · rw [if_pos h35] at hs;have hx:t.Nl < t.Nd.length:=by
      by_cases h5:t.Nl < t.Nd.length
      · exact h5
      · rw [if_neg h5] at hs;cases hs
    by_cases h3:e.Kind=3
    · rw [if_pos h3];exact Qgr h ha (.inr ⟨by show 1<=t.Nl+1;omega,by show t.Nl+1<=(t.Nd.length:Int);omega⟩) hsc hnd hd hld
    · rw [if_neg h3,if_pos (by omega)];refine Qgr h ha (.inr ?_) (fun s hs=>hsc s (List.mem_of_mem_take hs)) (List.Nodup.sublist (List.take_sublist _ _) hnd) (fun j hj hne s hs=>hd j hj hne s (List.mem_of_mem_take hs)) (fun k hk=>?_)
      · simp only [List.length_take];omega
      · simp only [List.length_take] at hk;simp only [List.getElem_take];exact hld k (by omega)
  · rw [if_neg (by omega),if_neg (by omega)];exact Qgr h ha (.inl ⟨rfl,rfl⟩) (fun s hs=>by simp at hs) (by simp) (fun j hj hne s hs=>by simp at hs) (fun k hk=>by simp at hk)
end Go.Gw

end
section
set_option maxRecDepth 4096
namespace Go.Gw
open Go
attribute [local irreducible] loop
def chE (p:Nf) (x:Ng) (n:Nat) (t:Nk) (k:Nat) (s:Int):Int :=
 bif YA p s then (bif decide (s∈t.Nd.take k)||(x.Na.take n).any (fun o=>decide (s∈o.Nd)) then 17 else if k=0 then 0 else bif J1 p x.Nb (t.Nd[k - 1]?.getD 0) s then 0 else 23) else 6
def Jt (p:Nf) (x:Ng) (n:Nat) (t:Nk) (k:Nat):Int:=(t.Nd[k]?.map (chE p x n t k)).getD 0
def J9 (t:Nk):Bool:=if t.Nd.length=0 then decide (t.Nl=0) else decide (1<=t.Nl)&&decide (t.Nl<=t.Nd.length)
def tsE (p:Nf) (x:Ng) (n:Nat) (t:Nk):Int:=bif J9 t then (match XP (Jt p x n t) t.Nd.length with | some k=>Jt p x n t k | none=>0) else 3
def JN (p:Nf) (x:Ng) (n:Nat):Int:=(x.Na[n]?.map (tsE p x n)).getD 0
def Qew (p:Nf) (x:Ng):Int :=
 if x.Nb.length=p.Nb.length/\x.Na.length=p.Na.length then
  (bif x.Nb.all YW&&Qbg x.Nh then (match XP (JN p x) x.Na.length with | some k=>JN p x k | none=>0) else 2) else 10
theorem tsE_zero {p:Nf} {x:Ng} {n:Nat} {t:Nk}:tsE p x n t=0↔J9 t=true/\∀ k (hk:k < t.Nd.length),chE p x n t k t.Nd[k]=0:=by
 unfold tsE;cases hu:J9 t with
 | false=>simp
 | true =>
  simp only [cond_true,true_and];have hg:∀ k (hk:k < t.Nd.length),Jt p x n t k=chE p x n t k t.Nd[k]:=fun k hk=>Z6 _ _ _ hk
  cases hf:XP (Jt p x n t) t.Nd.length with
  | some k =>
   obtain ⟨h1,h2,_⟩:=Qah hf;constructor
   ·intro h;exact absurd h h2
   ·intro h;exact absurd ((hg k h1).trans (h k h1)) h2
  | none=>exact ⟨fun _ k hk=>(hg k hk).symm.trans (Qib hf k hk),fun _=>rfl⟩
theorem chE_zero {p:Nf} {x:Ng} {n:Nat} {t:Nk} {k:Nat} {s:Int}:chE p x n t k s=0↔YA p s=true/\s∉t.Nd.take k/\(∀ o∈x.Na.take n,s∉o.Nd)/\(k≠0->J1 p x.Nb (t.Nd[k - 1]?.getD 0) s=true):=by
  unfold chE;cases YA p s with
  | false=>simp
  | true =>
    simp only [cond_true,true_and];by_cases h1:s∈t.Nd.take k
    · simp [h1]
    by_cases h2:∀ o∈x.Na.take n,s∉o.Nd
    · have h3 : (x.Na.take n).any (fun o => decide (s ∈ o.Nd)) = false := by
        rw [List.any_eq_false];intro o ho hm;exact h2 o ho (of_decide_eq_true hm)
      rw [h3,decide_eq_false h1];by_cases hk:k=0
      · simp [hk];exact h2
      · simp only [Bool.or_false,cond_false,if_neg hk];cases J1 p x.Nb (t.Nd[k - 1]?.getD 0) s with
        | false=>simp [hk]
        | true=>simp [h1];exact h2
    · have h3 : (x.Na.take n).any (fun o => decide (s ∈ o.Nd)) = true := by
        cases hb:(x.Na.take n).any (fun o=>decide (s∈o.Nd)) with
        | true=>rfl
        | false =>
          rw [List.any_eq_false] at hb;exact absurd (fun o ho hm=>hb o ho (decide_eq_true hm)) h2
      rw [h3,Bool.or_true];simp [h2]
theorem undB_iff {t:Nk}:J9 t=true↔(t.Nd=[]/\t.Nl=0)\/(1<=t.Nl/\t.Nl<=t.Nd.length):=by
 unfold J9;by_cases h:t.Nd.length=0
 ·rw [if_pos h];have h2:t.Nd=[]:=List.length_eq_zero_iff.1 h;simp only [decide_eq_true_eq];constructor
  ·intro h3;exact .inl ⟨h2,h3⟩
  ·rintro (h3 | h3)
   ·exact h3.2
   ·omega
 ·rw [if_neg h];simp only [Bool.and_eq_true,decide_eq_true_eq];constructor
  ·intro h3;exact .inr h3
  ·rintro (h3 | h3)
   ·rw [h3.1] at h;exact absurd rfl h
   ·exact h3
theorem state_iff {p:Nf} {x:Ng}:Qew p x=0↔StateOk p x:=by
  have hg:∀ k (hk:k < x.Na.length),JN p x k=tsE p x k x.Na[k]:=fun k hk=>Z6 _ _ _ hk
  unfold Qew;constructor
  · intro h;by_cases h1:x.Nb.length=p.Nb.length/\x.Na.length=p.Na.length
    · rw [if_pos h1] at h;cases h2:x.Nb.all YW&&Qbg x.Nh with
      | false=>rw [h2] at h;cases h
      | true =>
        rw [h2,cond_true] at h;rw [Bool.and_eq_true,List.all_eq_true] at h2;cases hf:XP (JN p x) x.Na.length with
        | some k=>rw [hf] at h;exact absurd h (Qah hf).2.1
        | none =>
          have hz:∀ n (hn:n < x.Na.length),J9 x.Na[n]=true/\∀ k (hk:k < x.Na[n].Nd.length),chE p x n x.Na[n] k x.Na[n].Nd[k]=0:=fun n hn=>tsE_zero.1 ((hg n hn).symm.trans (Qib hf n hn))
          refine ⟨h1.1,h1.2,h2.1,h2.2,fun t ht=>?_,fun t ht s hs=>?_,fun t ht=>?_,fun i j hi hj hij s hs hm=>?_,fun t ht k hk=>?_⟩
          · obtain ⟨n,hn,rfl⟩:=List.getElem_of_mem ht;exact undB_iff.1 (hz n hn).1
          · obtain ⟨n,hn,rfl⟩:=List.getElem_of_mem ht;obtain ⟨k,hk,rfl⟩:=List.getElem_of_mem hs;exact (chE_zero.1 ((hz n hn).2 k hk)).1
          · obtain ⟨n,hn,rfl⟩:=List.getElem_of_mem ht;exact QCm fun k hk=>(chE_zero.1 ((hz n hn).2 k hk)).2.1
          · rcases Nat.lt_or_gt_of_ne hij with h3 | h3
            · obtain ⟨k,hk,rfl⟩:=List.getElem_of_mem hm;exact (chE_zero.1 ((hz j hj).2 k hk)).2.2.1 _ (List.mem_take_iff_getElem.2 ⟨i,by omega,rfl⟩) hs
            · obtain ⟨k,hk,rfl⟩:=List.getElem_of_mem hs;exact (chE_zero.1 ((hz i hi).2 k hk)).2.2.1 _ (List.mem_take_iff_getElem.2 ⟨j,by omega,rfl⟩) hm
          · obtain ⟨n,hn,rfl⟩:=List.getElem_of_mem ht;have:=(chE_zero.1 ((hz n hn).2 (k+1) hk)).2.2.2 (by omega);rwa [Nat.add_sub_cancel,List.getElem?_eq_getElem (show k < x.Na[n].Nd.length by omega),Option.getD_some] at this
    · rw [if_neg h1] at h;cases h
  · intro h;rw [if_pos ⟨h.sw,h.tr⟩,show (x.Nb.all YW&&Qbg x.Nh)=true by rw [Bool.and_eq_true,List.all_eq_true];exact ⟨h.pos,h.cnt⟩,cond_true];rw [QJo fun n hn=>by
      rw [hg n hn,tsE_zero];have ht:=List.getElem_mem hn;refine ⟨undB_iff.2 (h.un _ ht),fun k hk=>chE_zero.2 ⟨h.sc _ ht _ (List.getElem_mem hk),QQf (h.nd _ ht) hk,fun o ho hm=>?_,fun hk0=>?_⟩⟩
      · obtain ⟨i,hi,rfl⟩:=List.mem_take_iff_getElem.1 ho;exact h.dj i n (by omega) hn (by omega) _ hm (List.getElem_mem hk)
      · rw [List.getElem?_eq_getElem (show k - 1 < x.Na[n].Nd.length by omega),Option.getD_some];have:=h.ld _ ht (k - 1) (by omega);simp only [show k - 1+1=k by omega] at this;exact this]
end Go.Gw

end
section
set_option maxRecDepth 4096
namespace Go.Gw
open Go
attribute [local irreducible] loop
theorem Qzy {a b:List Int} (ha:0 < a.length) (hb:0 < b.length):decide (a[0]=b[b.length - 1])=decide (a.head?=b.getLast?):=by
 rw [List.head?_eq_getElem?,List.getLast?_eq_getElem?,List.getElem?_eq_getElem ha,List.getElem?_eq_getElem (show b.length - 1 < b.length by omega)];simp only [Option.some.injEq]
theorem Qyl {p:Nf} (hp:PlantOk p) {x:Ng} (h:StateOk p x) {e:Nj} (he:Yt p e=0) :
    Runs (Qfx (some ⟨p,x⟩) e) fun r=>r.2=Zw p x e/\(Zw p x e=0->r.1=some ⟨p,Jb p x e⟩):=by
  have hs:=h.s hp;have hw4:=hp.w4;have ht3:=hp.t3;have hkd:=Qia he;have hsl:=h.sw;have htl:=h.tr;unfold Qfx;by_cases h2:e.Kind=2
  · obtain ⟨a0,a1,a2⟩:=Qrd he h2;have e1:Zw p x e=(bif Zm x (Qey p e).Nm then 17 else 0):=by unfold Zw;rw [if_pos h2]
    have e2:Jb p x e=⟨x.Nb.set e.A.toNat e.B,x.Na,x.Nh⟩:=by unfold Jb;rw [if_pos h2]
    rw [e1,e2,Qwu a1,decide_eq_true h2,cond_true,Qn];show Runs (Option.bind (idx p.Nb e.A) _) _;rw [Qbx a0 a1,Qn,Qwx p hs _ (by simp),Qn];simp only [List.any_cons,List.any_nil,Bool.or_false];cases Zm x p.Nb[e.A.toNat].Nm with
    | true=>exact Runs.some ⟨rfl,fun hh=>by cases hh⟩
    | false =>
      simp only [cond_false];rw [Qqq _ (by show x.Nb.length < _;omega),Qn];show Runs (Option.bind (idx x.Nb e.A) _) _;rw [Qbx a0 (by omega),Qn];exact Runs.some ⟨rfl,fun _=>rfl⟩
  obtain ⟨a0,a1,a2,a3,a4⟩:=Qrc he h2;have ha:e.A.toNat < x.Na.length:=by omega
  have htm:ZK x e∈x.Na:=by rw [Qgy ha];exact List.getElem_mem ha
  have hcl:=h.len htm;have hs8:=hp.s8;have hu:=h.un _ htm;have e2:Jb p x e=⟨x.Nb,x.Na.set e.A.toNat (trX p (ZK x e) e),x.Nh⟩:=by unfold Jb;rw [if_neg h2]
  have hnx:=fun c u=>QNo p x a0 ha (by omega) c u
  rw [e2,decide_eq_false h2,cond_false,Qn];show Runs (Option.bind (idx x.Na e.A) _) _;rw [Qbx a0 ha,Qn,<-Qgy ha];unfold Zw trX;simp only [if_neg h2];generalize ZK x e=t at *
  by_cases h0:e.Kind=0
  · simp only [if_pos h0,decide_eq_true h0,cond_true];rw [YK,Qn,Qwx p hs _ (by simp),Qn,YK,Qn,ZF _ (by simp),Qn,Qn];simp only [List.any_cons,List.any_nil,Bool.or_false,Qso];by_cases hc:t.Nd.length=0
    · simp only [hc,Int.natCast_zero,decide_true,cond_true,ne_eq,not_true_eq_false,if_false,if_true];cases Zm x e.B with
      | true=>exact Runs.some ⟨rfl,fun hh=>by cases hh⟩
      | false =>
        simp only [Bool.not_false,cond_true,decide_true,Bool.not_true,cond_false];rw [hnx,Qn];exact Runs.some ⟨rfl,fun _=>rfl⟩
    · rw [if_neg hc,decide_eq_false (show ¬ (t.Nd.length:Int)=0 by omega)];exact Runs.some ⟨rfl,fun hh=>by cases hh⟩
  simp only [if_neg h0,decide_eq_false h0,cond_false];by_cases hc:t.Nd.length=0
  · rw [decide_eq_true (show (t.Nd.length:Int)=0 by omega),if_pos hc];exact Runs.some ⟨rfl,fun hh=>by cases hh⟩
  rw [decide_eq_false (show ¬ (t.Nd.length:Int)=0 by omega),cond_false,YK,Qn,if_neg hc];have hu2:1<=t.Nl/\t.Nl<=t.Nd.length:=by
    rcases hu with ⟨h3,_⟩ | h3
    · rw [h3] at hc;exact absurd rfl hc
    · exact h3
  by_cases h1:e.Kind=1
  · simp only [if_pos h1,decide_eq_true h1,cond_true];obtain ⟨b0,b1⟩:=a3 h1;rw [show (⟨p,x⟩:Np).Nx.Ni=p.Ni from rfl,Qbx b0 b1,Qn,<-Qjk b1];have hr:J6 p e∈p.Ni:=by rw [Qjk b1];exact List.getElem_mem b1
    generalize J6 p e=r at *
    have hr2:=hp.r2 r hr;have hr8:=hp.r8 r hr;have hrn:=hp.rn r hr;rw [Qlf (by omega),Qn,show (0:Int)=((0:Nat):Int) from rfl,XA (show 0 < r.Nc.length by omega),Qn,
      show w64 ((t.Nd.length:Int) - 1)=((t.Nd.length - 1:Nat):Int) by rw [Zf (by omega)];omega,XA (show t.Nd.length - 1 < t.Nd.length by omega),Qn,YK,Qn,
      Qwx p hs _ (by simp;omega),Qn,YK,Qn,QAq hrn hsl (by omega) (by omega),Qn,YK,Qn,ZF _ (by simp),Qn,Qzy (by omega) (by omega),Qfs]
    by_cases h3:r.Nc.head?=t.Nd.getLast?
    · simp only [h3,decide_true,cond_true,Int.natCast_zero,ne_eq,not_true_eq_false,if_false,if_true];cases hb:(r.Nc.drop 1).any (Zm x) with
      | true=>exact Runs.some ⟨rfl,fun hh=>by cases hh⟩
      | false =>
        cases hl:YN p x.Nb r r.Nc with
        | false=>exact Runs.some ⟨rfl,fun hh=>by cases hh⟩
        | true =>
          simp only [Bool.not_false,cond_true,Int.natCast_zero,not_true_eq_false,if_false,decide_true,Bool.not_true,cond_false];rw [QId _ _ (by omega) (by simp;omega),Qn,hnx,Qn];exact Runs.some ⟨rfl,fun _=>rfl⟩
    · simp only [h3,decide_false,cond_false,if_false];exact Runs.some ⟨rfl,fun hh=>by cases hh⟩
  simp only [if_neg h1,decide_eq_false h1,cond_false];by_cases h3:e.Kind=3
  · simp only [if_pos h3,decide_eq_true h3,cond_true];rw [if_neg (by omega),if_pos (.inl h3),hnx,Qn,Zf (by omega)];by_cases h5:t.Nl < t.Nd.length
    · rw [if_pos h5,decide_eq_true h5];exact Runs.some ⟨rfl,fun _=>rfl⟩
    · rw [if_neg h5,decide_eq_false h5];exact Runs.some ⟨rfl,fun hh=>by cases hh⟩
  simp only [if_neg h3,decide_eq_false h3,cond_false];by_cases h4:e.Kind=4
  · simp only [if_pos h4,decide_eq_true h4,cond_true];rw [Qlf (by omega),Qn,hnx,Qn,YK,Qn,Zf (by omega)];by_cases h5:1 < t.Nl
    · rw [if_pos h5,decide_eq_true h5];exact Runs.some ⟨rfl,fun _=>rfl⟩
    · rw [if_neg h5,decide_eq_false h5];exact Runs.some ⟨rfl,fun hh=>by cases hh⟩
  simp only [if_neg h4,decide_eq_false h4,cond_false];by_cases h5:e.Kind=5
  · simp only [if_pos h5,decide_eq_true h5,cond_true];rw [if_pos (.inr h5),show w64 ((t.Nd.length:Int) - 1)=((t.Nd.length - 1:Nat):Int) by rw [Zf (by omega)];omega,Qcr (by omega),Qn,hnx,Qn];by_cases h6:t.Nl < t.Nd.length
    · rw [if_pos h6,decide_eq_true h6];exact Runs.some ⟨rfl,fun _=>rfl⟩
    · rw [if_neg h6,decide_eq_false h6];exact Runs.some ⟨rfl,fun hh=>by cases hh⟩
  simp only [if_neg h5,decide_eq_false h5,cond_false];rw [if_neg (by omega),hnx,Qn,YK,Qn];by_cases h6:t.Nd.length=1
  · rw [if_pos h6,decide_eq_true (by omega)];exact Runs.some ⟨rfl,fun _=>rfl⟩
  · rw [if_neg h6,decide_eq_false (by omega)];exact Runs.some ⟨rfl,fun hh=>by cases hh⟩
/-! ### The beginning, copies -/
theorem QVw (p:Nf) {x:Ng} (h:StateS x):Qil (some ⟨p,x⟩)=some x:=by
 have h1:=h.sw;have h2:=h.tr;unfold Qil;rw [Qn];show Option.bind (Option.bind (Qde x.Nb) _) _=_;rw [Qqq _ (by omega),Qn,Qn];simp only [Qn];have hl:=Qgd (step:=Qik ⟨p,x⟩) (o:=x.Na) (fun k=>((k:Int),x.Na.take k)) x.Na.length (fun k hk=>by
  unfold Qik;show (bif decide ((k:Int) < (x.Na.length:Int)) then Option.bind (idx x.Na (k:Int)) _ else _)=_;rw [XQ hk,cond_true,XA hk,Qn,Qqq _ (by have:=h.ch _ (List.getElem_mem hk);omega),Qn,Jf (by simp;omega),Qn,XK k (by omega)];show some (Sum.inl (_,x.Na.take k++[x.Na[k]]))=_;have:=Qwv x.Na id k hk;simp only [List.map_id,id_eq] at this;rw [this]) (by
  unfold Qik;show (bif decide ((x.Na.length:Int) < (x.Na.length:Int)) then _ else _)=_;rw [XS,List.take_length];rfl)
 have hl2:loop (Qik ⟨p,x⟩) (0,([]:List Nk))=some x.Na:=hl;rw [hl2];rfl
end Go.Gw

end
section
set_option maxRecDepth 4096
namespace Go.Gw
open Go
attribute [local irreducible] loop
def Qfg:Ng:=⟨[],[],0⟩
def J0 (p:Nf) (x:Ng) (e:Nj):Int:=if Yt p e=0 then Zw p x e else Yt p e
def evs (p:Nf):Ng->Nat->List Nj->Ng⊕(Nat×Int)
 | x,_,[]=>.inl x
 | x,k,e::l=>if J0 p x e=0 then evs p (Jb p x e) (k+1) l else .inr (k,J0 p x e)
theorem Qzl {p:Nf} (hp:PlantOk p) {x:Ng} (h:StateOk p x) {e:Nj} (he:J0 p x e=0):Yt p e=0/\Zw p x e=0/\StateOk p (Jb p x e):=by
 unfold J0 at he;by_cases h1:Yt p e=0
 ·rw [if_pos h1] at he;exact ⟨h1,he,QEw hp h h1 he⟩
 ·rw [if_neg h1] at he;exact absurd he h1
end Go.Gw

end
section
set_option maxRecDepth 4096
namespace Go.Gw
open Go
attribute [local irreducible] loop
theorem Qgc {σ β ρ:Type} {step:σ->Option (σ⊕ρ)} (n M:Nat) (f:Nat->List β) (S:Nat->List β->σ) (o:List β->ρ) (acc0:List β) (hf:∀ k,k < n->(f k).length<=M)
  (hs:∀ k,k < n->∀ acc:List β,acc.length<=acc0.length+k * M->step (S k acc)=some (.inl (S (k+1) (acc++f k)))) (he:∀ acc,step (S n acc)=some (.inr (o acc))) :
  loop step (S 0 acc0)=some (o (acc0++(List.range n).flatMap f))/\(acc0++(List.range n).flatMap f).length<=acc0.length+n * M:=by
 have key:∀ k,k<=n->(acc0++(List.range k).flatMap f).length<=acc0.length+k * M/\loop step (S 0 acc0)=loop step (S k (acc0++(List.range k).flatMap f)):=by
  intro k
  induction k with
  | zero=>intro _;exact ⟨by simp,by simp⟩
  | succ k ih =>
   intro hk;obtain ⟨h1,h2⟩:=ih (by omega);have e:acc0++(List.range (k+1)).flatMap f=acc0++(List.range k).flatMap f++f k:=by
    rw [List.range_succ,List.flatMap_append,List.append_assoc];simp
   refine ⟨?_,?_⟩
   ·rw [e,List.length_append];have:=hf k (by omega);rw [Nat.succ_mul];omega
   ·rw [h2,Qbk (hs k (by omega) _ h1),e]
 obtain ⟨h1,h2⟩:=key n (Nat.le_refl n);exact ⟨by rw [h2];exact Qbl (he _),h1⟩
def Zs (p:Nf) (k:Nat):Nat:=if k=2 then p.Nb.length else p.Na.length
def YY (p:Nf) (k:Nat):Nat:=if k=0 then p.Nc.length else if k=1 then p.Ni.length else if k=2 then 2 else 1
def Yk (k a b:Nat):Nj:=⟨(k:Int),(a:Int),(b:Int)⟩
def Jj (p:Nf):List Nj:=(List.range 7).flatMap fun k=>(List.range (Zs p k)).flatMap fun a=>(List.range (YY p k)).flatMap fun b=>[Yk k a b]
def Qax (p:Nf) (x:Ng):List Nj:=(Jj p).filter fun e=>decide (Zw p x e=0)
theorem Qhz {p:Nf} {k a b:Nat} (hk:k < 7):Yt p (Yk k a b)=0↔a < Zs p k/\b < YY p k:=by
 unfold Yt Yk Zs YY Qdg J8 YA Qdd YW;simp only;rw [if_neg (by omega)];by_cases h2:k=2
 ·subst h2;simp only [Int.cast_ofNat_Int,if_true,show ¬ (2=0) by omega,show ¬ (2=1) by omega,if_false];by_cases ha:a < p.Nb.length
  ·rw [decide_eq_true (show (0:Int)<=a by omega),decide_eq_true (show (a:Int)<=(p.Nb.length:Int) - 1 by omega)];by_cases hb:b < 2
   ·rw [show (decide ((b:Int)=0)||decide ((b:Int)=1))=true by simp only [Bool.or_eq_true,decide_eq_true_eq];omega];simp [ha,hb]
   ·rw [decide_eq_false (show ¬ (b:Int)=0 by omega),decide_eq_false (show ¬ (b:Int)=1 by omega)];simp [hb]
  ·rw [decide_eq_false (show ¬ (a:Int)<=(p.Nb.length:Int) - 1 by omega),Bool.and_false];simp [ha]
 ·rw [if_neg (show ¬ (k:Int)=2 by omega),if_neg h2];by_cases ha:a < p.Na.length
  ·rw [decide_eq_true (show (0:Int)<=a by omega),decide_eq_true (show (a:Int)<=(p.Na.length:Int) - 1 by omega)];simp only [Bool.and_self,cond_true,ha,true_and,if_neg h2];by_cases h0:k=0
   ·rw [if_pos (show (k:Int)=0 by omega),if_pos h0];by_cases hb:b < p.Nc.length
    ·rw [decide_eq_true (show (0:Int)<=b by omega),decide_eq_true (show (b:Int)<=(p.Nc.length:Int) - 1 by omega)];simp [hb]
    ·rw [decide_eq_false (show ¬ (b:Int)<=(p.Nc.length:Int) - 1 by omega),Bool.and_false];simp [hb]
   ·rw [if_neg (show ¬ (k:Int)=0 by omega),if_neg h0];by_cases h1:k=1
    ·rw [if_pos (show (k:Int)=1 by omega),if_pos h1];by_cases hb:b < p.Ni.length
     ·rw [decide_eq_true (show (0:Int)<=b by omega),decide_eq_true (show (b:Int)<=(p.Ni.length:Int) - 1 by omega)];simp [hb]
     ·rw [decide_eq_false (show ¬ (b:Int)<=(p.Ni.length:Int) - 1 by omega),Bool.and_false];simp [hb]
    ·rw [if_neg (show ¬ (k:Int)=1 by omega),if_neg h1];by_cases hb:b=0
     ·subst hb;simp
     ·rw [if_neg (by omega)];constructor
      ·intro h;cases h
      ·intro h;omega
  ·rw [decide_eq_false (show ¬ (a:Int)<=(p.Na.length:Int) - 1 by omega),Bool.and_false];simp [ha]
theorem Qzm {p:Nf} {e:Nj} (h:e∈Jj p):Yt p e=0:=by
 unfold Jj at h;simp only [List.mem_flatMap,List.mem_range,List.mem_singleton] at h;obtain ⟨k,hk,a,ha,b,hb,rfl⟩:=h;exact (Qhz hk).2 ⟨ha,hb⟩
def ZC (p:Nf) (x:Ng) (l:List Nj):List Ns:=(l.filter fun e=>decide (Zw p x e=0)).map fun e=>Ns.mk e (some ⟨p,Jb p x e⟩)
theorem QEx {p:Nf} {x:Ng} {f:Nat->List Nj}:∀ (l:List Nat),ZC p x (l.flatMap f)=l.flatMap fun k=>ZC p x (f k)
 | []=>rfl
 | k::l=>by
  have:=QEx (p:=p) (x:=x) (f:=f) l;unfold ZC at this ⊢;rw [List.flatMap_cons,List.filter_append,List.map_append,this,List.flatMap_cons]
theorem QUv {p:Nf} {x:Ng} {e:Nj}:(ZC p x [e]).length<=1:=by
 unfold ZC;rw [List.length_map];exact List.length_filter_le _ _
theorem QRf {p:Nf} (hp:PlantOk p) {x:Ng} (h:StateOk p x):Qej (some ⟨p,x⟩)=some (ZC p x (Jj p)):=by
  have hs8:=hp.s8;have ht3:=hp.t3;have hw4:=hp.w4;have hr10:=hp.r10;have hb:∀ k,YY p k<=10:=fun k=>by unfold YY;split<;>(try split)<;>(try split)<;>omega
  have ha:∀ k,Zs p k<=4:=fun k=>by unfold Zs;split<;>omega
  -- the innermost loop
  have l0:∀ k:Nat,k < 7->∀ a:Nat,a < Zs p k->∀ acc:List Ns,acc.length<=1000->loop (Qii (some ⟨p,x⟩) (k:Int) ((YY p k:Nat):Int) (a:Int)) (0,acc)=some (.inr (acc++(List.range (YY p k)).flatMap fun b=>ZC p x [Yk k a b]))/\(acc++(List.range (YY p k)).flatMap fun b=>ZC p x [Yk k a b]).length<=acc.length+YY p k * 1 :=
    fun k hk a hka acc hacc=>Qgc (step:=Qii (some ⟨p,x⟩) (k:Int) ((YY p k:Nat):Int) (a:Int)) (YY p k) 1 (fun b=>ZC p x [Yk k a b]) (fun b acc=>((b:Int),acc)) (fun acc=>.inr acc) acc (fun _ _=>QUv) (fun b hbk acc' hl=>by
      have hb':=hb k;have he:Yt p (Yk k a b)=0:=(Qhz hk).2 ⟨hka,hbk⟩;obtain ⟨r,hr,h1,h2⟩:=Qyl hp h he;unfold Qii;simp only [XQ hbk,cond_true];rw [show (Nj.mk (k:Int) (a:Int) (b:Int))=Yk k a b from rfl,hr,Qn,h1];by_cases h3:Zw p x (Yk k a b)=0
      · rw [decide_eq_true h3,cond_true,Jf (by simp;omega),Qn,h2 h3,XK b (by omega)];simp [ZC,h3]
      · rw [decide_eq_false h3,cond_false,XK b (by omega)];simp [ZC,h3]) (fun acc'=>by
      unfold Qii;simp only [XS];rfl)
  have l1:∀ k:Nat,k < 7->∀ acc:List Ns,acc.length<=500->loop (Qij (some ⟨p,x⟩) (k:Int) ((Zs p k:Nat):Int) ((YY p k:Nat):Int)) (0,acc)=some (.inr (acc++(List.range (Zs p k)).flatMap fun a=>(List.range (YY p k)).flatMap fun b=>ZC p x [Yk k a b]))/\(acc++(List.range (Zs p k)).flatMap fun a=>(List.range (YY p k)).flatMap fun b=>ZC p x [Yk k a b]).length<=acc.length+Zs p k * 10 :=
    fun k hk acc hacc=>Qgc (step:=Qij (some ⟨p,x⟩) (k:Int) ((Zs p k:Nat):Int) ((YY p k:Nat):Int)) (Zs p k) 10 (fun a=>(List.range (YY p k)).flatMap fun b=>ZC p x [Yk k a b]) (fun a acc=>((a:Int),acc)) (fun acc=>.inr acc) acc (fun a hka=>by
      have:=(l0 k hk a hka [] (by simp)).2;have:=hb k;simp only [List.nil_append,List.length_nil] at *
      omega) (fun a hka acc' hl=>by
      have ha':=ha k;have hl2:a * 10<=40:=by omega
      unfold Qij;simp only [XQ hka,cond_true];rw [(l0 k hk a hka acc' (by omega)).1,Qn,XK a (by omega)];rfl) (fun acc'=>by
      unfold Qij;simp only [XS];rfl)
  have l2 := (Qgc (step := Qmq ⟨p, x⟩ (some ⟨p, x⟩)) (ρ := (List Ns) ⊕ (List Ns)) 7 40 (fun k => (List.range (Zs p k)).flatMap fun a => (List.range (YY p k)).flatMap fun b => ZC p x [Yk k a b]) (fun k acc => ((k : Int), acc)) (fun acc => .inr acc) [] (fun k hk => by
      have:=(l1 k hk [] (by simp)).2;have:=ha k;simp only [List.nil_append,List.length_nil] at *
      omega) (fun k hk acc hl=>by
      have e:(bif decide ((k:Int)=0) then some (((p.Na.length:Nat):Int),((p.Nc.length:Nat):Int)) else bif decide ((k:Int)=1) then some (((p.Na.length:Nat):Int),((p.Ni.length:Nat):Int)) else bif decide ((k:Int)=2) then some (((p.Nb.length:Nat):Int),2) else some (((p.Na.length:Nat):Int),1))=some (((Zs p k:Nat):Int),((YY p k:Nat):Int)):=by
        unfold Zs YY;by_cases h0:k=0
        · subst h0;rfl
        by_cases h1:k=1
        · subst h1;rfl
        by_cases h2:k=2
        · subst h2;rfl
        rw [decide_eq_false (by omega),decide_eq_false (by omega),decide_eq_false (by omega),if_neg h2,if_neg h0,if_neg h1,if_neg h2];rfl
      unfold Qmq;simp only [show decide ((k:Int) < 7)=true by rw [decide_eq_true_eq];omega,cond_true];show Option.bind (bif decide ((k:Int)=0) then some (((p.Na.length:Nat):Int),((p.Nc.length:Nat):Int)) else bif decide ((k:Int)=1) then some (((p.Na.length:Nat):Int),((p.Ni.length:Nat):Int)) else bif decide ((k:Int)=2) then some (((p.Nb.length:Nat):Int),2) else some (((p.Na.length:Nat):Int),1)) _=_;rw [e,Qn];simp only;rw [(l1 k hk acc (by simp at hl;omega)).1,Qn,XK k (by omega)];rfl) (fun acc=>by rfl)).1
  unfold Qej;rw [Qn];have l3:loop (Qmq ⟨p,x⟩ (some ⟨p,x⟩)) (0,([]:List Ns))=_:=l2;rw [l3,Qn];simp only [Xt,List.nil_append];unfold Jj;simp only [QEx]
end Go.Gw

end
section
set_option maxRecDepth 4096
namespace Go.Gw
open Go
attribute [local irreducible] loop
end Go.Gw

end
section
set_option maxRecDepth 4096
namespace Go.Gw
open Go
attribute [local irreducible] loop
end Go.Gw

end
