/- Laws of the walk. Condition: each theorem says its own. -/
import Derived.Test.YthonianbjkhnpaaGreatDoorGwTopA
import Derived.Test.YthonianbjkhnpaaGreatDoorGwLib25
set_option linter.unusedVariables false
set_option linter.unusedSimpArgs false
set_option linter.unusedSectionVars false
open List renaming getElem_mem→Ea,getElem?_eq_getElem→Eb,getElem_of_mem→Ec,range→Ed,mem_take_iff_getElem→Eg,any_eq_false→Eh,getElem_zip→Ei,length_drop→Ej,mem_singleton→Em,length_append→En,getElem_drop→Eo,length_zip→Ev,mem_of_mem_drop→Ew,nil_append→Ex,drop_eq_getElem_cons→Ey,Nodup→Ez,pairwise_iff_getElem→EA,mem_or_eq_of_mem_set→EB,getLast?_eq_getElem?→EC,getElem_append_right→ED,take_length→EE,head?_eq_getElem?→EG,mem_range→EH,mem_iff_getElem→EI,mem_of_mem_take→EJ,any_cons→EL,getElem_zipIdx→EN
open Bool renaming not_true→Ee,and_eq_true→Ek,not_false→El,or_eq_true→Eq_,and_false→Er,not_eq_true'→Es,true_and→Et,eq_iff_iff→EF,or_eq_false_iff→EK,or_false→EM
open Go.Gw.Runs renaming some→Ef
open Option renaming bind→Ep,some→EO
open Int renaming natCast_zero→Eu
section
set_option maxRecDepth 100000
namespace Go.Gw
open Go
theorem QIj:Qsw=some true:=by decide +kernel
end Go.Gw

end
section
set_option linter.unusedSectionVars false
namespace Go.Gw
section
variable {α β γ σ ρ:Type}
def Yw (p:α->Bool) (res:Nat->α->ρ):Nat->List α->ρ⊕Unit
 | _,[]=>.inr ()
 | k,x::xs=>if p x then .inl (res k x) else Yw p res (k+1) xs
theorem Ze {step:Int->Option (Int⊕(ρ⊕Unit))} (xs:List α) (p:α->Bool) (res:Nat->α->ρ)
  (hs:∀ k (hk:k < xs.length),step (k:Int)=(bif p xs[k] then some (.inr (.inl (res k xs[k]))) else some (.inl ((k+1:Nat):Int))))
  (he:step (xs.length:Int)=some (.inr (.inr ()))):loop step 0=some (Yw p res 0 xs):=by
 have key:∀ j k,j+k=xs.length->loop step (k:Int)=some (Yw p res k (xs.drop k)):=by
  intro j
  induction j with
  | zero =>
   intro k hk;obtain rfl:k=xs.length:=by omega
   rw [List.drop_length];exact ZE he
  | succ j ih =>
   intro k hk;have hlt:k < xs.length:=by omega
   rw [Ey hlt];have:=hs k hlt;cases hp:p xs[k] with
   | true=>simp_all [ZE,Yw,if_true]
   | false=>grind [JC,Yw]
 have:=key xs.length 0 (by omega);trivial

def fld (f:Nat->γ->α->γ):Nat->γ->List α->γ
 | _,a,[]=>a
 | k,a,x::xs=>fld f (k+1) (f k a x) xs
theorem QBh {step:σ->Option (σ⊕β)} (xs:List α) (f:Nat->γ->α->γ) (S:γ->Nat->σ) (o:γ->β) (Inv:γ->Nat->Prop) (a0:γ) (h0:Inv a0 0)
  (hs:∀ k (hk:k < xs.length) a,Inv a k->step (S a k)=some (.inl (S (f k a xs[k]) (k+1)))/\Inv (f k a xs[k]) (k+1))
  (he:∀ a,Inv a xs.length->step (S a xs.length)=some (.inr (o a))):loop step (S a0 0)=some (o (fld f 0 a0 xs))/\Inv (fld f 0 a0 xs) xs.length:=by
 have key:∀ j k a,j+k=xs.length->Inv a k->loop step (S a k)=some (o (fld f k a (xs.drop k)))/\Inv (fld f k a (xs.drop k)) xs.length:=by
  intro j
  induction j with
  | zero =>
   intro k a hk hI;obtain rfl:k=xs.length:=by omega
   rw [List.drop_length];exact ⟨ZE (he a hI),hI⟩
  | succ j ih =>
   intro k a hk hI;have hlt:k < xs.length:=by omega
   rw [Ey hlt];have:=hs k hlt a hI;rw [JC this.1];exact ih (k+1) _ (by omega) this.2
 have:=key xs.length 0 a0 (by omega) h0;trivial

theorem Xf (k:Nat) (h:k < 4611686018427387904):w64 ((k:Int)+1)=((k+1:Nat):Int):=by grind [Yy]
theorem Xw {k n:Nat} (h:k < n):decide ((k:Int) < (n:Int))=true:=by simp;omega
theorem Xy (n:Nat):decide ((n:Int) < (n:Int))=false:=by simp
end
end Go.Gw

end
section
set_option maxRecDepth 4096
namespace Go.Gw
open Go
def ZD:List Int->Int
 | []=>0
 | x::xs=>if x=0 then ZD xs else x
theorem JB (l:List Int) (hl:l.length < 1073741824):ZZ l=some (ZD l):=by
  unfold ZZ;rw [Ze l (fun x=>!decide (x=0)) (fun _ x=>x)]
  · have key : ∀ (l : List Int) k, (Xs (Yw (fun x => !decide (x = 0)) (fun _ x => x) k l) fun (_ : Unit) => some 0) = some (ZD l) := by
      intro l
      induction l with
      | nil=>intro k;rfl
      | cons x xs ih =>
        intro k;by_cases h:x=0
        · simp [Yw,ZD,h];exact ih _
        · simp [Yw,ZD,h,Xs]
    simpa using key l 0
  · intro k hk;unfold Qtf;rw [Xw hk,Xj hk,Xf k (by omega)];rfl
  · unfold Qtf;rw [Xy];rfl
theorem Y5 (b:Bool) (e:Int):Yj b e=some (bif b then 0 else e):=by cases b<;>rfl
theorem Qwy (n lo hi:Int):JV n lo hi=some (decide (lo<=n)&&decide (n<=hi)):=rfl
end Go.Gw

end
section
set_option maxRecDepth 4096
namespace Go.Gw
open Go
def Qas (n:Int):Bool:=decide (0<=n)&&decide (n<=250)
end Go.Gw

end
section
set_option maxRecDepth 4096
namespace Go.Gw
open Go
attribute [local irreducible] loop
end Go.Gw

end
section
set_option maxRecDepth 4096
namespace Go.Gw
open Go
attribute [local irreducible] loop
end Go.Gw

end
section
set_option maxRecDepth 4096
namespace Go.Gw
open Go
attribute [local irreducible] loop
theorem Qfo {α:Type} (p:α->Bool):∀ (l:List α) (k:Nat),(Xs (β:=Int) (Yw p (fun k _=>(k:Int)) k l) fun (_:Unit)=>some (-1))=some (match Yw p (fun k _=>(k:Int)) k l with | .inl i=>i | .inr _=>-1)
 | l,k=>by cases Yw p (fun k _=>(k:Int)) k l<;>rfl
theorem Qku {α:Type} (p:α->Bool):∀ (l:List α) (k:Nat),decide (0<=(match Yw p (fun k _=>(k:Int)) k l with | .inl i=>i | .inr _=>(-1:Int)))=l.any p
 | [],k=>by simp [Yw]
 | x::xs,k=>by
  by_cases h:p x=true
  ·simp [Yw,h]
  ·simp only [Yw,h,EL];have:=Qku p xs (k+1);simpa [h] using this
theorem Z3 {α ρ:Type} {p:α->Bool} {res:Nat->α->ρ}:∀ (l:List α) (k:Nat),(Yw p res k l=.inr ()/\l.any p=false)\/∃ j x,Yw p res k l=.inl (res j x)/\p x=true/\l.any p=true
 | [],k=>.inl ⟨rfl,rfl⟩
 | x::xs,k=>by
  by_cases h:p x=true
  ·exact .inr ⟨k,x,by simp [Yw,h],h,by simp [h]⟩
  ·rcases Z3 xs (k+1) (p:=p) (res:=res) with ⟨h1,h2⟩ | ⟨j,y,h1,h2,h3⟩
   ·exact .inl ⟨by simp [Yw,h,h1],by simp [h,h2]⟩
   ·exact .inr ⟨j,y,by simp [Yw,h,h1],h2,by simp [h3]⟩
def XH (f:Nat->Int) (n:Nat):Option Nat:=(Ed n).find? fun i=>decide (f i≠0)
theorem Qmg (f:Nat->Int) (n:Nat):(XH f n=none/\∀ j,j < n->f j=0)\/∃ i,XH f n=some i/\i < n/\f i≠0/\∀ j,j < i->f j=0:=by
 cases h:XH f n with
 | none =>
  refine .inl ⟨rfl,fun j hj=>?_⟩;have:=List.find?_eq_none.1 h j (EH.2 hj);simpa using this
 | some i =>
  right;obtain ⟨h1,h2,h3⟩:=List.find?_range_eq_some.1 h;exact ⟨i,rfl,EH.1 h2,by simpa using h1,fun j hj=>by have:=h3 j hj;simpa using this⟩
theorem Qay {σ ρ μ:Type} {step:σ->Option (σ⊕(ρ⊕μ))} (S:Nat->σ) (n:Nat) (f:Nat->Int) (res:Nat->Int->ρ) (o:μ)
  (hs:∀ k,k < n->(∀ j,j < k->f j=0)->step (S k)=if f k=0 then some (.inl (S (k+1))) else some (.inr (.inl (res k (f k))))) (he:(∀ j,j < n->f j=0)->step (S n)=some (.inr (.inr o))) :
  loop step (S 0)=some (match XH f n with | some i=>.inl (res i (f i)) | none=>.inr o):=by
 rcases Qmg f n with ⟨h1,h2⟩ | ⟨i,h1,h2,h3,h4⟩
 ·rw [h1];exact Qnt S n (fun k hk=>by rw [hs k hk fun j hj=>h2 j (by omega),if_pos (h2 k hk)]) (he h2)
 ·rw [h1];exact Qnt S i (fun k hk=>by rw [hs k (by omega) fun j hj=>h4 j (by omega),if_pos (h4 k hk)]) (by rw [hs i h2 h4,if_neg h3])
/-! ### Names -/
def Qif (q:Int×Nat):Bool:=(!(((decide (97<=q.1))&&(decide (q.1<=122)))||((decide (65<=q.1))&&(decide (q.1<=90)))))&&((decide ((q.2:Int)=0))||((!decide (q.1=45))&&((decide (q.1 < 48))||(decide (57 < q.1)))))
def bi (s:ByteArray):List Int:=bl s
theorem Qly (s:ByteArray):(bi s).length=s.size:=ZY s
theorem Qzu {s:ByteArray} {k:Nat} (h:k < (bi s).length):idx (α:=Int) (bl s) (k:Int)=some (bi s)[k]:=Xj (xs:=bi s) h
def Qbm (s:ByteArray):Bool:=decide (1<=s.size)&&(decide (s.size<=12)&&!((bi s).zipIdx.any Qif))
theorem QEv (s:ByteArray):s=ByteArray.mk #[]↔s.size=0:=by
 constructor
 ·intro h;subst h;rfl
 ·intro h;cases s with
  | mk d =>
   congr 1;exact Array.eq_empty_of_size_eq_zero h
theorem Qrc (s:ByteArray):Qgd s=some (Qbm s):=by
  unfold Qgd Qbm;have hlen:(bi s).zipIdx.length=s.size:=by rw [List.length_zipIdx,Qly]
  by_cases h:1<=s.size/\s.size<=12
  · have : (decide ((s.size : Int) < 1) || decide (12 < (s.size : Int))) = false := by
      rw [decide_eq_false (by omega),decide_eq_false (by omega)];rfl
    rw [this,cond_false,Ze (bi s).zipIdx Qif (fun _ _=>false),Qp]
    · rcases Z3 (p:=Qif) (res:=fun _ _=>false) (bi s).zipIdx 0 with ⟨k1,k2⟩ | ⟨j,x,k1,k2,k3⟩
      · rw [k1,k2];simp [h,Xs]
      · rw [k1,k3];simp [Xs]
    · intro k hk;rw [hlen] at hk;unfold Qri;rw [Xw hk,cond_true,Qzu (show k < (bi s).length by rw [Qly];exact hk),Qp,Xf k (by omega)];simp only [EN,Nat.zero_add];rfl
    · rw [hlen];unfold Qri;rw [Xy];rfl
  · have : (decide ((s.size : Int) < 1) || decide (12 < (s.size : Int))) = true := by
      by_cases h1:s.size < 1
      · rw [decide_eq_true (by omega)];rfl
      · rw [decide_eq_true (p:=12 < (s.size:Int)) (by omega)];simp
    rw [this,cond_true];congr 1;by_cases h1:1<=s.size
    · rw [decide_eq_false (p:=s.size<=12) (by omega)];simp
    · rw [decide_eq_false h1];rfl
theorem Qsr (s:ByteArray) (hs:s.size<=1000):Qgr s=some (Qbm s):=by
 unfold Qgr Qbm;have hlen:(bi s).zipIdx.length=s.size:=by rw [List.length_zipIdx,Qly]
 have ht:tob s=some (bl s):=by unfold tob;rw [if_pos (by omega)]
 rw [ht,Qp,Ze (bi s).zipIdx Qif (fun _ _=>false),Qp]
 ·rcases Z3 (p:=Qif) (res:=fun _ _=>false) (bi s).zipIdx 0 with ⟨k1,k2⟩ | ⟨j,x,k1,k2,k3⟩
  ·rw [k1,k2];simp only [Xs,El,Bool.and_true,EO.injEq];by_cases h0:s.size=0
   ·rw [decide_eq_true ((QEv s).2 h0),decide_eq_false (show ¬ 1<=s.size by omega)];rfl
   ·rw [decide_eq_false (fun e=>h0 ((QEv s).1 e)),decide_eq_true (show 1<=s.size by omega)];simp only [El,Et];by_cases h1:s.size<=12
    ·rw [decide_eq_true h1,decide_eq_true (by omega)]
    ·rw [decide_eq_false h1,decide_eq_false (by omega)]
  ·rw [k1,k3];simp [Xs]
 ·intro k hk;rw [hlen] at hk;have hk2:k < (bl s).length:=by rw [ZY];exact hk
  unfold Qti;rw [Xw hk2,cond_true,Qzu (show k < (bi s).length by rw [Qly];exact hk),Qp,Xf k (by omega)];simp only [EN,Nat.zero_add];rfl
 ·rw [hlen,show (s.size:Int)=((bl s).length:Int) by rw [ZY]];unfold Qti;rw [Xy];rfl
theorem Qcr (n lo hi:Int):Ji n lo hi=some (decide (lo<=n)&&decide (n<=hi)):=rfl
theorem QMg (a b:Int):ZD [a,b]=if a≠0 then a else b:=by
 unfold ZD ZD ZD;by_cases h:a=0<;>by_cases h2:b=0<;>simp [h,h2]
theorem Qct (a b c:Int):ZD [a,b,c]=if a≠0 then a else if b≠0 then b else c:=by
 unfold ZD ZD ZD ZD;by_cases h:a=0<;>by_cases h2:b=0<;>by_cases h3:c=0<;>simp [h,h2,h3]
theorem Jq {α:Type} (l:List α) (f:α->Int) (k:Nat) (hk:k < l.length):(l[k]?.map f).getD 0=f l[k]:=by rw [Eb hk];rfl
theorem Qdd {α β:Type} (l:List α) (f:α->β) (k:Nat) (hk:k < l.length):(l.take k).map f++[f l[k]]=(l.take (k+1)).map f:=by
 rw [List.take_add_one,Eb hk,List.map_append];rfl
theorem Qqr {α β:Type} {a:List α} {b:List β} (hl:a.length=b.length):(a.zip b).length=a.length:=by simp [hl]
theorem Qdq {α:Type} {xs:List α} {k:Nat} (h:k<=xs.length):cut xs 0 (k:Int)=some (xs.take k):=by
 unfold cut;rw [if_pos (by omega),Int.toNat_natCast];rfl
theorem Qxu {α:Type} [DecidableEq α] (l:List α) (v:α):(l.any fun x=>decide (v=x))=decide (v∈l):=by
 rw [EF];simp
theorem Qxv {α:Type} [DecidableEq α] (l:List α) (v:α):(l.any fun x=>decide (x=v))=decide (v∈l):=by
 rw [EF];simp
def Qbk {α:Type} (p:α->Bool) (l:List α):Int:=match Yw p (fun k _=>(k:Int)) 0 l with | .inl i=>i | .inr _=>(-1:Int)
theorem Qso {α:Type} (p:α->Bool) (l:List α):decide (0<=Qbk p l)=l.any p:=Qku p l 0
theorem QAd (l:List Int) (v:Int) (hl:l.length < 1000000):Qks l v=some (Qbk (fun x=>decide (v=x)) l):=by
 unfold Qks Qbk;rw [Ze l (fun x=>decide (v=x)) (fun k _=>(k:Int)),Qp,Qfo]
 ·intro k hk;unfold Qvz;rw [Xw hk,Xj hk,Xf k (by omega)];rfl
 ·unfold Qvz;rw [Xy];rfl
theorem Qex (l:List Int) (v:Int) (hl:l.length < 1000000):Qbp l v=some (decide (v∈l)):=by
 unfold Qbp;rw [QAd l v hl,Qp,Qso,Qxu]
end Go.Gw

end
section
set_option maxRecDepth 4096
namespace Go.Gw
open Go
attribute [local irreducible] loop
def Z0 (s:ByteArray) (others:List ByteArray):Int:=bif Qbm s then (bif YP others s then 5 else 0) else 4
def ZF (l:List ByteArray) (k:Nat):Int:=(l[k]?.map fun s=>Z0 s (l.take k)).getD 0
def Ya (p:Ng) (n:Int):Bool:=decide (0<=n)&&decide (n<=(p.Nf.length:Int) - 1)
def swX (p:Ng) (k:Nat) (s:Nv):Int:=bif Ya p s.Nn then (bif (p.Nb.take k).any (fun o=>decide (o.Nn=s.Nn)) then 26 else 0) else 6
def swE (p:Ng) (k:Nat) (s:Nv):Int:=if Z0 s.Name ((p.Nb.take k).map (·.Name))=0 then swX p k s else Z0 s.Name ((p.Nb.take k).map (·.Name))
def Z4 (p:Ng) (k:Nat):Int:=(p.Nb[k]?.map (swE p k)).getD 0
def rsE (p:Ng) (r:Nr) (k:Nat) (s:Int):Int:=bif Ya p s then (bif decide (s∈r.Nf.take k) then 26 else 0) else 6
def JZ (p:Ng) (r:Nr) (k:Nat):Int:=(r.Nf[k]?.map (rsE p r k)).getD 0
def Qaj (r:Nr) (q:Int×Nv):Bool:=bif decide (q.2.Nn∈r.Nf) then !(decide (q.1=0)||decide (q.1=1)) else !decide (q.1=-1)
def rtX (p:Ng) (r:Nr):Int :=
 if r.Nf.length < 2 then 10 else if p.Nf.length < r.Nf.length then 8 else
 match XH (JZ p r) r.Nf.length with
 | some i=>JZ p r i
 | none=>if r.Ns.length=p.Nb.length then (bif (r.Ns.zip p.Nb).any (Qaj r) then 2 else 0) else 10
def rtE (p:Ng) (k:Nat) (r:Nr):Int:=if Z0 r.Name ((p.Ni.take k).map (·.Name))=0 then rtX p r else Z0 r.Name ((p.Ni.take k).map (·.Name))
def Z1 (p:Ng) (k:Nat):Int:=(p.Ni[k]?.map (rtE p k)).getD 0
def JX (p:Ng):Nt×Int :=
 if p.Nf.length=0\/p.Na.length=0 then (Nt.mk 0 0,10) else if 8 < p.Nf.length\/3 < p.Na.length\/4 < p.Nb.length\/10 < p.Ni.length then (Nt.mk 0 0,8) else
 match XH (ZF p.Nf) p.Nf.length with
 | some i=>(Nt.mk 1 i,ZF p.Nf i)
 | none=>match XH (ZF p.Na) p.Na.length with
  | some i=>(Nt.mk 2 i,ZF p.Na i)
  | none=>match XH (Z4 p) p.Nb.length with
   | some i=>(Nt.mk 3 i,Z4 p i)
   | none=>match XH (Z1 p) p.Ni.length with
    | some i=>(Nt.mk 4 i,Z1 p i)
    | none=>(Nt.mk 0 0,0)
structure PlantS (p:Ng):Prop where
 se:p.Nf.length < 1000
 tr:p.Na.length < 1000
 sw:p.Nb.length < 1000
 ro:p.Ni.length < 1000
 sn:∀ s∈p.Nf,s.size<=1000
 tn:∀ s∈p.Na,s.size<=1000
 wn:∀ s∈p.Nb,s.Name.size<=1000
 rn:∀ r∈p.Ni,r.Name.size<=1000/\r.Nf.length < 1000/\r.Ns.length < 1000
theorem Qsm {α:Type} (l:List α) (f:α->ByteArray) (k:Nat) (hk:k < l.length) (h:YP ((l.take k).map f) (f l[k])=false):ZQ ((l.take k).map f) (f l[k])=(l.take (k+1)).map f:=by
 unfold ZQ;rw [h,if_neg (by simp),Qdd l f k hk]
theorem Qtx (s:ByteArray) (others:List ByteArray):ZD [bif Qbm s then 0 else 4,bif !(YP others s) then 0 else 5]=Z0 s others:=by
 unfold Z0;cases Qbm s<;>cases YP others s<;>rfl
theorem Qty {s:ByteArray} {others:List ByteArray} (h:Z0 s others=0):YP others s=false:=by
 unfold Z0 at h;cases h1:YP others s with
 | false=>rfl
 | true=>rw [h1] at h;cases h2:Qbm s<;>rw [h2] at h<;>cases h
theorem QJm {n m:Int} (h:n≠m):decide (n=m)=false:=decide_eq_false h
theorem QBp (l:List ByteArray) (mark:Int) (hl:l.length < 1000) (hn:∀ s∈l,s.size<=1000):Qjo mark l=some (match XH (ZF l) l.length with | some i=>(Nt.mk mark i,ZF l i) | none=>(Nt.mk 0 0,0)):=by
 unfold Qjo;have key:loop (Qjn l mark) (0,[])=some (match XH (ZF l) l.length with | some i=>.inl (Nt.mk mark i,ZF l i) | none=>.inr ()):=by
  refine Qay (step:=Qjn l mark) (fun k=>((k:Int),(l.take k).map id)) l.length (ZF l) (fun i e=>(Nt.mk mark i,e)) () (fun k hk _=>?_) (fun _=>?_)
  ·have hs:ZF l k=Z0 l[k] (l.take k):=Jq _ _ _ hk;have hi:=fun h=>Qsm l id k hk h
   simp only [List.map_id,id_eq] at hi ⊢;rw [hs];unfold Qjn;simp only [Xw hk,cond_true,Xj hk,Qp];rw [show Qtk l[k]=some l[k] from rfl,Qp,Qsr _ (hn _ (Ea hk)),Qp];simp only [Y5,Qp];rw [JB _ (by simp),Qp,Qtx];by_cases h:Z0 l[k] (l.take k)=0
   ·rw [if_pos h,h,hi (Qty h),Xf k (by omega)];rfl
   ·rw [if_neg h,QJm h];rfl
  ·unfold Qjn;simp only [Xy];rfl
 rw [key,Qp];cases XH (ZF l) l.length<;>rfl
theorem QIx (l:List Nv) (s:Nv) (hl:l.length < 1000):Qpp l s=some (l.any fun o=>decide (o.Nn=s.Nn)):=by
 unfold Qpp Qvt;rw [Ze l (fun o=>decide (o.Nn=s.Nn)) (fun k _=>(k:Int)),Qp,Qfo,Qp,Qku]
 ·intro k hk;unfold Qvs;rw [Xw hk,Xj hk,Xf k (by omega)];rfl
 ·unfold Qvs;rw [Xy];rfl
theorem QEr (p:Ng) (hp:p.Nf.length < 1000) (n:Int):JV n 0 (w64 ((p.Nf.length:Int) - 1))=some (Ya p n):=by
 rw [Qwy,Yy (by omega)];rfl
theorem QYh {p:Ng} (h:PlantS p) (k:Nat) (hk:k < p.Nb.length):Qns p k=some (swX p k p.Nb[k]):=by
 have h1:=h.sw;unfold Qns swX;rw [Xj hk,Qp,Qdq (by omega),Qp,QIx _ _ (by simp;omega),Qp,QEr p h.se,Qp,Y5,Qp,Y5,Qp,JB _ (by simp),Qp];cases Ya p p.Nb[k].Nn<;>cases (p.Nb.take k).any (fun o=>decide (o.Nn=p.Nb[k].Nn))<;>rfl
theorem QYj {p:Ng} (h:PlantS p):Qnk 3 p.Nb p=some (match XH (Z4 p) p.Nb.length with | some i=>(Nt.mk 3 i,Z4 p i) | none=>(Nt.mk 0 0,0)):=by
 have hl:=h.sw;unfold Qnk;have key:loop (Qjm p p.Nb 3) (0,[])=some (match XH (Z4 p) p.Nb.length with | some i=>.inl (Nt.mk 3 i,Z4 p i) | none=>.inr ()):=by
  refine Qay (step:=Qjm p p.Nb 3) (fun k=>((k:Int),(p.Nb.take k).map (·.Name))) p.Nb.length (Z4 p) (fun i e=>(Nt.mk 3 i,e)) () (fun k hk _=>?_) (fun _=>?_)
  ·have hs:Z4 p k=swE p k p.Nb[k]:=Jq _ _ _ hk;have hi:=fun h=>Qsm p.Nb (·.Name) k hk h
   rw [hs];unfold Qjm swE;simp only [Xw hk,cond_true,Xj hk,Qp];rw [show Qta p.Nb[k]=some p.Nb[k].Name from rfl,Qp,Qsr _ (h.wn _ (Ea hk)),Qp];simp only [Y5,Qp];rw [JB _ (by simp),Qp,Qtx,show Qmw (k:Int) p=some (swX p k p.Nb[k]) by unfold Qmw;rw [QYh h k hk];rfl];by_cases h1:Z0 p.Nb[k].Name ((p.Nb.take k).map (·.Name))=0
   ·simp only [h1,hi (Qty h1),if_true,decide_true,Et,cond_true,Qp,Xf k (show k < 4611686018427387904 by omega)];by_cases h2:swX p k p.Nb[k]=0
    ·simp [h2]
    ·simp [h2]
   ·simp only [h1,if_false,decide_false,Bool.false_and,cond_false,Qp,El,cond_true]
  ·unfold Qjm;simp only [Xy];rfl
 rw [key,Qp];cases XH (Z4 p) p.Nb.length<;>rfl
theorem QVp {p:Ng} (h:PlantS p) (r:Nr) (hr:r.Nf.length < 1000):loop (Qno r p) 0=some (match XH (JZ p r) r.Nf.length with | some i=>.inl (JZ p r i) | none=>.inr ()) :=
 Qay (fun k=>(k:Int)) r.Nf.length (JZ p r) (fun _ e=>e) () (fun k hk _=>by
  have hs:JZ p r k=rsE p r k r.Nf[k]:=Jq _ _ _ hk;rw [hs];unfold Qno rsE;rw [Xw hk,cond_true,Xj hk,Qp,Qdq (by omega),Qp,QEr p h.se,Qp,Y5,Qp,Qex _ _ (by simp;omega),Qp,Y5,Qp,JB _ (by simp),Qp,Xf k (by omega)];cases Ya p r.Nf[k]<;>cases decide (r.Nf[k]∈r.Nf.take k)<;>rfl) (fun _=>by
  unfold Qno;rw [Xy];rfl)
theorem QVo {p:Ng} (r:Nr) (hr:r.Nf.length < 1000) (hn:r.Ns.length < 1000) (he:r.Ns.length=p.Nb.length):loop (Qnp r p) 0=some (Yw (Qaj r) (fun _ _=>(2:Int)) 0 (r.Ns.zip p.Nb)) :=
 Ze (r.Ns.zip p.Nb) _ _ (fun k hk=>by
  rw [Qqr he] at hk;unfold Qnp;rw [Xw hk,cond_true,Xj hk,Qp,Xj (show k < p.Nb.length by omega),Qp,Qex _ _ (by omega),Qp,Xf k (by omega)];simp only [Ei,Qaj];rw [show Qjf r.Ns[k]=some (decide (r.Ns[k]=0)||decide (r.Ns[k]=1)) from rfl];cases decide (p.Nb[k].Nn∈r.Nf)<;>rfl) (by
  rw [Qqr he];unfold Qnp;rw [Xy];rfl)
theorem QVs {p:Ng} (h:PlantS p) (k:Nat) (hk:k < p.Ni.length):Qnq p k=some (rtX p p.Ni[k]):=by
 obtain ⟨_,hr,hn⟩:=h.rn _ (Ea hk);have h1:=h.se;have h2:=h.sw;unfold Qnq rtX;rw [Xj hk,Qp,Y5,Qp,Y5,Qp,JB _ (by simp),Qp];generalize p.Ni[k]=r at hr hn ⊢;by_cases h3:r.Nf.length < 2
 ·rw [if_pos h3,decide_eq_false (show ¬ (2<=(r.Nf.length:Int)) by omega)];rfl
 rw [if_neg h3,decide_eq_true (show 2<=(r.Nf.length:Int) by omega)];by_cases h4:p.Nf.length < r.Nf.length
 ·rw [if_pos h4,decide_eq_false (show ¬ ((r.Nf.length:Int)<=p.Nf.length) by omega)];rfl
 rw [if_neg h4,decide_eq_true (show (r.Nf.length:Int)<=p.Nf.length by omega),QVp h r hr];simp only [ZD,cond_true,if_true,decide_true,Ee,cond_false,Qp];cases XH (JZ p r) r.Nf.length with
 | some i=>rfl
 | none =>
  simp only [Xs];by_cases h5:r.Ns.length=p.Nb.length
  ·rw [if_pos h5,decide_eq_true (by omega),Ee,cond_false,QVo r hr hn h5,Qp];rcases Z3 (p:=Qaj r) (res:=fun _ _=>(2:Int)) (r.Ns.zip p.Nb) 0 with ⟨k1,k2⟩ | ⟨j,x,k1,k2,k3⟩
   ·rw [k1,k2];rfl
   ·rw [k1,k3];rfl
  ·rw [if_neg h5,decide_eq_false (by omega)];rfl
theorem QWf {p:Ng} (h:PlantS p):Qnj 4 p.Ni p=some (match XH (Z1 p) p.Ni.length with | some i=>(Nt.mk 4 i,Z1 p i) | none=>(Nt.mk 0 0,0)):=by
 have hl:=h.ro;unfold Qnj;have key:loop (Qjl p p.Ni 4) (0,[])=some (match XH (Z1 p) p.Ni.length with | some i=>.inl (Nt.mk 4 i,Z1 p i) | none=>.inr ()):=by
  refine Qay (step:=Qjl p p.Ni 4) (fun k=>((k:Int),(p.Ni.take k).map (·.Name))) p.Ni.length (Z1 p) (fun i e=>(Nt.mk 4 i,e)) () (fun k hk _=>?_) (fun _=>?_)
  ·have hs:Z1 p k=rtE p k p.Ni[k]:=Jq _ _ _ hk;have hi:=fun h=>Qsm p.Ni (·.Name) k hk h
   rw [hs];unfold Qjl rtE;simp only [Xw hk,cond_true,Xj hk,Qp];rw [show Qtc p.Ni[k]=some p.Ni[k].Name from rfl,Qp,Qsr _ (h.rn _ (Ea hk)).1,Qp];simp only [Y5,Qp];rw [JB _ (by simp),Qp,Qtx,show Qmx (k:Int) p=some (rtX p p.Ni[k]) by unfold Qmx;rw [QVs h k hk];rfl];by_cases h1:Z0 p.Ni[k].Name ((p.Ni.take k).map (·.Name))=0
   ·simp only [h1,hi (Qty h1),if_true,decide_true,Et,cond_true,Qp,Xf k (show k < 4611686018427387904 by omega)];by_cases h2:rtX p p.Ni[k]=0
    ·simp [h2]
    ·simp [h2]
   ·simp only [h1,if_false,decide_false,Bool.false_and,cond_false,Qp,El,cond_true]
  ·unfold Qjl;simp only [Xy];rfl
 rw [key,Qp];cases XH (Z1 p) p.Ni.length<;>rfl
theorem QIy {p:Ng} (h:PlantS p):Qmy p=some (JX p):=by
  unfold Qmy JX;rw [Y5,Qp,Y5,Qp,JB _ (by simp),Qp];by_cases h1:p.Nf.length=0\/p.Na.length=0
  · rw [if_pos h1, show (decide (0 < (p.Nf.length : Int)) && decide (0 < (p.Na.length : Int))) = false by
      rcases h1 with h1 | h1
      · rw [decide_eq_false (show ¬ (0 < (p.Nf.length:Int)) by omega)];rfl
      · rw [decide_eq_false (show ¬ (0 < (p.Na.length:Int)) by omega),Er]]
    rfl
  rw [if_neg h1,decide_eq_true (show 0 < (p.Nf.length:Int) by omega),decide_eq_true (show 0 < (p.Na.length:Int) by omega)];by_cases h2:8 < p.Nf.length\/3 < p.Na.length\/4 < p.Nb.length\/10 < p.Ni.length
  · rw [if_pos h2, show (((decide (8 < (p.Nf.length : Int)) || decide (3 < (p.Na.length : Int))) || decide (4 < (p.Nb.length : Int))) || decide (10 < (p.Ni.length : Int))) = true by
      simp only [Eq_,decide_eq_true_eq];omega]
    rfl
  rw [if_neg h2, show (((decide (8 < (p.Nf.length : Int)) || decide (3 < (p.Na.length : Int))) || decide (4 < (p.Nb.length : Int))) || decide (10 < (p.Ni.length : Int))) = false by
      rw [decide_eq_false (by omega),decide_eq_false (by omega),decide_eq_false (by omega),decide_eq_false (by omega)];rfl]
  unfold Qsy Qsz Qtb Qtd;rw [QBp _ _ h.se h.sn,QBp _ _ h.tr h.tn,QYj h,QWf h];have hz:∀ {f:Nat->Int} {n i:Nat},XH f n=some i->f i≠0:=fun {f n i} hf=>by
    rcases Qmg f n with ⟨k1,_⟩ | ⟨j,k1,_,k3,_⟩
    · rw [k1] at hf;cases hf
    · rw [k1] at hf;cases hf;exact k3
  simp only [Et,El,cond_true,ZD,if_true,decide_true,Ee,cond_false,Qp];cases h3:XH (ZF p.Nf) p.Nf.length with
  | some i=>simp [hz h3]
  | none =>
    simp only [decide_true,Ee,cond_false];cases h4:XH (ZF p.Na) p.Na.length with
    | some i=>simp [hz h4]
    | none =>
      simp only [decide_true,Ee,cond_false];cases h5:XH (Z4 p) p.Nb.length with
      | some i=>simp [hz h5]
      | none =>
        simp only [decide_true,Ee,cond_false];cases h6:XH (Z1 p) p.Ni.length with
        | some i=>simp [hz h6]
        | none=>simp
theorem QUb {p:Ng} (h:PlantS p):Qff p=some (JX p).2:=by
 unfold Qff;rw [QIy h];rfl
end Go.Gw

end
section
set_option maxRecDepth 4096
namespace Go.Gw
open Go
attribute [local irreducible] loop
theorem Qip {α:Type} {xs:List α} (h:1<=xs.length):cut xs 1 (xs.length:Int)=some (xs.drop 1):=by
 unfold cut;rw [if_pos (by omega),Int.toNat_natCast,EE];rfl
structure StateS (x:Nd):Prop where
 sw:x.Nb.length < 1000
 tr:x.Na.length < 1000
 ch:∀ t∈x.Na,t.Nc.length < 1000
def Ye (x:Nd) (s:Int):Int:=Qbk (fun t:Nm=>decide (s∈t.Nc)) x.Na
def Zw (x:Nd) (s:Int):Bool:=x.Na.any fun t=>decide (s∈t.Nc)
theorem Qmo (x:Nd) (s:Int):decide (0<=Ye x s)=Zw x s:=Qso _ _
theorem QMq (p:Ng) {x:Nd} (h:StateS x) (s:Int):Qnf (some ⟨p,x⟩) s=some (Ye x s):=by
 have h1:=h.tr;unfold Qnf Qvu Ye Qbk;rw [Qp];show (Ep (Ep (loop (Qps s x.Na) 0) _) _)=_;rw [Ze x.Na (fun t=>decide (s∈t.Nc)) (fun k _=>(k:Int)),Qp,Qfo,Qp]
 ·intro k hk;unfold Qps Qtl;rw [Xw hk,cond_true,Xj hk,Qp,Qex _ _ (by have:=h.ch _ (Ea hk);omega),Qp,Qp,Xf k (by omega)]
 ·unfold Qps;rw [Xy];rfl
theorem Qwk (p:Ng) {x:Nd} (h:StateS x) (l:List Int) (hl:l.length < 1000):Qgu (some ⟨p,x⟩) l=some (l.any (Zw x)):=by
 unfold Qgu Qvr Qvy;rw [Ze l (Zw x) (fun k _=>(k:Int)),Qp,Qfo,Qp,Qku]
 ·rfl
 ·intro k hk;unfold Qvx Qto;rw [Xw hk,cond_true,Xj hk,Qp,QMq p h,Qp,Qp,Qmo,Xf k (by omega)]
 ·unfold Qvx;rw [Xy];rfl
def Qfc (secs:List Int) (q:Nv×(Int×Int)):Bool:=decide (q.1.Nn∈secs)&&!decide (q.2.1=q.2.2)
def YH (p:Ng) (sw:List Int) (r:Nr) (secs:List Int):Bool:=!((p.Nb.zip (r.Ns.zip sw)).any (Qfc secs))
theorem QXq (α:Type) (p:α->Bool) (l:List α):(Xs (Yw p (fun _ _=>false) 0 l) fun (_:Unit)=>some true)=some (!(l.any p)):=by
 rcases Z3 (p:=p) (res:=fun _ _=>false) l 0 with ⟨k1,k2⟩ | ⟨j,x,k1,k2,k3⟩
 ·rw [k1,k2];rfl
 ·rw [k1,k3];rfl
theorem QAl {p:Ng} {x:Nd} {r:Nr} {secs:List Int} (h1:r.Ns.length=p.Nb.length) (h2:x.Nb.length=p.Nb.length) (h3:p.Nb.length < 1000) (hs:secs.length < 1000):Qji (some ⟨p,x⟩) r secs=some (YH p x.Nb r secs):=by
 unfold Qji YH;have hlen:(p.Nb.zip (r.Ns.zip x.Nb)).length=p.Nb.length:=by simp [h1,h2]
 rw [Qp,Ze (p.Nb.zip (r.Ns.zip x.Nb)) (Qfc secs) (fun _ _=>false),Qp,QXq]
 ·intro k hk;rw [hlen] at hk;unfold Qtn;rw [Xw hk,cond_true,Xj hk,Qp,Qex _ _ (by omega),Qp,Xf k (by omega)];simp only [Qp];rw [Xj (show k < r.Ns.length by omega),Xj (show k < x.Nb.length by omega)];simp only [Ei,Qfc,Qp];cases decide (p.Nb[k].Nn∈secs)<;>rfl
 ·rw [hlen];unfold Qtn;rw [Xy];rfl
theorem QJc (l:List Nm) (h:l.length < 1000000):Qpn l=some l:=by
 unfold Qpn;rw [Zp (by simp;omega)];rfl
theorem QJb (l:List Int) (h:l.length < 1000000):Qfn l=some l:=by
 unfold Qfn;rw [Zp (by simp;omega)];rfl
theorem Qcv {α:Type} {xs:List α} {i:Int} (h0:0<=i) (h:i.toNat < xs.length):idx xs i=some xs[i.toNat]:=by
 unfold idx;rw [if_pos h0,Eb h]
theorem QQl (p:Ng) (x:Nd) {a:Int} (h0:0<=a) (hk:a.toNat < x.Na.length) (hl:x.Na.length < 1000) (c:List Int) (u:Int):Qcx (some ⟨p,x⟩) a c u=some (some ⟨p,⟨x.Nb,x.Na.set a.toNat ⟨c,u⟩,x.Nh⟩⟩):=by
 unfold Qcx;rw [Qp,QJc _ (by show x.Na.length < _;omega),Qp];show Ep (idx x.Na a) _=_;rw [Qcv h0 hk,Qp]
theorem QMk (n:Nat) (h:n < 1000000):Qpr (n:Int)=some []:=by
 unfold Qpr;rw [decide_eq_false (show ¬ (n:Int) < 0 by omega)];simp only [cond_false,Qp,Eu,Int.sub_zero];rw [show w64 (0:Int)=0 from rfl,Int.sub_zero,Yy (by omega)];by_cases h0:0 < (n:Int)
 ·rw [decide_eq_true h0,cond_true];unfold mkZ
  first
  | (rw [if_pos (by omega),Qp];unfold cut;rw [if_pos (by simp)];rfl)
  | skip
 ·rw [decide_eq_false h0];rfl
theorem QJg (a b:List Int) (ha:a.length < 1000) (hb:b.length < 1000):Qpo [a,b]=some (a++b):=by
 have f0:Qhl [a,b] (0,0)=some (.inl ((a.length:Int),1)):=by
  unfold Qhl;simp only [show decide ((0:Int) < (([a,b]:List (List Int)).length:Int))=true from rfl,cond_true,show idx [a,b] (0:Int)=some a from rfl,Qp,Int.zero_add];rw [Yy (by omega),decide_eq_false (by omega)];rfl
 have f1:Qhl [a,b] ((a.length:Int),1)=some (.inl (((a.length+b.length:Nat):Int),2)):=by
  unfold Qhl;simp only [show decide ((1:Int) < (([a,b]:List (List Int)).length:Int))=true from rfl,cond_true,show idx [a,b] (1:Int)=some b from rfl,Qp];rw [Yy (by omega),decide_eq_false (by omega),show ((a.length:Int)+(b.length:Int))=((a.length+b.length:Nat):Int) by omega];rfl
 have f2:Qhl [a,b] (((a.length+b.length:Nat):Int),2)=some (.inr ((a.length+b.length:Nat):Int)):=rfl;have g0:Qhm [a,b] ([],0)=some (.inl (a,1)):=by
  unfold Qhm;simp only [show decide ((0:Int) < (([a,b]:List (List Int)).length:Int))=true from rfl,cond_true,show idx [a,b] (0:Int)=some a from rfl,Qp];rw [Zp (by simp;omega)];rfl
 have g1:Qhm [a,b] (a,1)=some (.inl (a++b,2)):=by
  unfold Qhm;simp only [show decide ((1:Int) < (([a,b]:List (List Int)).length:Int))=true from rfl,cond_true,show idx [a,b] (1:Int)=some b from rfl,Qp];rw [Zp (by omega)];rfl
 have g2:Qhm [a,b] (a++b,2)=some (.inr (a++b)):=rfl;unfold Qpo;rw [JC f0,JC f1,ZE f2,Qp,QMk _ (by omega),Qp,JC g0,JC g1,ZE g2,Qp]
/-! ### Events -/
def Zl (p:Ng) (n:Int):Bool:=decide (0<=n)&&decide (n<=(p.Na.length:Int) - 1)
def Qhr (p:Ng) (n:Int):Bool:=decide (0<=n)&&decide (n<=(p.Nb.length:Int) - 1)
def Qhg (p:Ng) (n:Int):Bool:=decide (0<=n)&&decide (n<=(p.Ni.length:Int) - 1)
def Y8 (n:Int):Bool:=decide (n=0)||decide (n=1)
def YO (p:Ng) (e:Nj):Int :=
 if ¬ (0<=e.Kind/\e.Kind<=6) then 15 else if e.Kind=2 then (bif Qhr p e.A then (bif Y8 e.B then 0 else 2) else 6) else
 bif Zl p e.A then (if e.Kind=0 then (bif Ya p e.B then 0 else 6) else if e.Kind=1 then (bif Qhg p e.B then 0 else 6) else if e.B=0 then 0 else 3) else 6
theorem QAk {n:Int} {k:Nat} (hk:k < 1000):JV n 0 (w64 ((k:Int) - 1))=some (decide (0<=n)&&decide (n<=(k:Int) - 1)):=by
 rw [Qwy,Yy (by omega)]
theorem Qvp {p:Ng} (h:PlantS p) (n:Int):Qgv p n=some (bif Ya p n then 0 else 6):=by
 unfold Qgv;rw [QAk h.se,Qp,Y5];rfl
theorem QGh {p:Ng} (h:PlantS p) (n:Int):Qjp p n=some (bif Zl p n then 0 else 6):=by
 unfold Qjp;rw [QAk h.tr,Qp,Y5];rfl
def ZU (x:Nd) (e:Nj):Nm:=x.Na[e.A.toNat]?.getD ⟨[],0⟩
def Qfp (p:Ng) (e:Nj):Nv:=p.Nb[e.A.toNat]?.getD ⟨ByteArray.mk #[],0⟩
def Qam (p:Ng) (e:Nj):Nr:=p.Ni[e.B.toNat]?.getD ⟨ByteArray.mk #[],[],[]⟩
def Zb (p:Ng) (x:Nd) (e:Nj):Int :=
 if e.Kind=2 then (bif Zw x (Qfp p e).Nn then 17 else 0) else
 if e.Kind=0 then (if (ZU x e).Nc.length=0 then (bif Zw x e.B then 17 else 0) else 22) else
 if (ZU x e).Nc.length=0 then 22 else
 if e.Kind=1 then (if (Qam p e).Nf.head?=(ZU x e).Nc.getLast? then (bif ((Qam p e).Nf.drop 1).any (Zw x) then 17 else bif YH p x.Nb (Qam p e) (Qam p e).Nf then 0 else 13) else 23) else
 if e.Kind=4 then (if 1 < (ZU x e).Nk then 0 else 12) else
 if e.Kind=3\/e.Kind=5 then (if (ZU x e).Nk < (ZU x e).Nc.length then 0 else 12) else
 if (ZU x e).Nc.length=1 then 0 else 17
def trX (p:Ng) (t:Nm) (e:Nj):Nm :=
 if e.Kind=0 then ⟨[e.B],1⟩ else if e.Kind=1 then ⟨t.Nc++(Qam p e).Nf.drop 1,t.Nk⟩ else if e.Kind=3 then ⟨t.Nc,t.Nk+1⟩ else
 if e.Kind=4 then ⟨t.Nc.drop 1,t.Nk - 1⟩ else if e.Kind=5 then ⟨t.Nc.take (t.Nc.length - 1),t.Nk⟩ else ⟨[],0⟩
def X1 (p:Ng) (x:Nd) (e:Nj):Nd :=
 if e.Kind=2 then ⟨x.Nb.set e.A.toNat e.B,x.Na,x.Nh⟩ else ⟨x.Nb,x.Na.set e.A.toNat (trX p (ZU x e) e),x.Nh⟩
end Go.Gw

end
section
set_option maxRecDepth 4096
namespace Go.Gw
open Go
attribute [local irreducible] loop
theorem Qiy {f:Nat->Int} {n:Nat} (h:XH f n=none):∀ j,j < n->f j=0:=by
 rcases Qmg f n with ⟨_,h2⟩ | ⟨i,h1,_⟩
 ·exact h2
 ·rw [h1] at h;cases h
theorem Qav {f:Nat->Int} {n i:Nat} (h:XH f n=some i):i < n/\f i≠0/\∀ j,j < i->f j=0:=by
 rcases Qmg f n with ⟨h1,_⟩ | ⟨j,h1,h2,h3,h4⟩
 ·rw [h1] at h;cases h
 ·rw [h1] at h;cases h;exact ⟨h2,h3,h4⟩
theorem QLv {f:Nat->Int} {n:Nat} (h:∀ j,j < n->f j=0):XH f n=none:=by
 cases hf:XH f n with
 | none=>rfl
 | some i=>obtain ⟨h1,h2,_⟩:=Qav hf;exact absurd (h i h1) h2
theorem QCq {α:Type} {l:List α} (h:∀ k (hk:k < l.length),l[k]∉l.take k):l.Nodup:=by
 unfold Ez;rw [EA];intro i j hi hj hij e;refine h j hj ?_;rw [<-e];exact Eg.2 ⟨i,by omega,rfl⟩
theorem QTe {α:Type} {l:List α} (h:l.Nodup) {k:Nat} (hk:k < l.length):l[k]∉l.take k:=by
 intro hm;obtain ⟨i,hi,e⟩:=Eg.1 hm;unfold Ez at h;rw [EA] at h;exact h i k (by omega) hk (by omega) e
structure PlantOk (p:Ng):Prop where
 s1:1<=p.Nf.length
 s8:p.Nf.length<=8
 t1:1<=p.Na.length
 t3:p.Na.length<=3
 w4:p.Nb.length<=4
 r10:p.Ni.length<=10
 ws:∀ s∈p.Nb,Ya p s.Nn=true
 r2:∀ r∈p.Ni,2<=r.Nf.length
 r8:∀ r∈p.Ni,r.Nf.length<=p.Nf.length
 rs:∀ r∈p.Ni,∀ s∈r.Nf,Ya p s=true
 rd:∀ r∈p.Ni,r.Nf.Nodup
 rn:∀ r∈p.Ni,r.Ns.length=p.Nb.length
 rx:∀ r∈p.Ni,(r.Ns.zip p.Nb).any (Qaj r)=false
theorem Qhe {p:Ng} {r:Nr} (h:rtX p r=0):2<=r.Nf.length/\r.Nf.length<=p.Nf.length/\(∀ s∈r.Nf,Ya p s=true)/\r.Nf.Nodup/\r.Ns.length=p.Nb.length/\(r.Ns.zip p.Nb).any (Qaj r)=false:=by
 unfold rtX at h;by_cases h1:r.Nf.length < 2
 ·rw [if_pos h1] at h;cases h
 rw [if_neg h1] at h;by_cases h2:p.Nf.length < r.Nf.length
 ·rw [if_pos h2] at h;cases h
 rw [if_neg h2] at h;cases hf:XH (JZ p r) r.Nf.length with
 | some i=>rw [hf] at h;exact absurd h (Qav hf).2.1
 | none =>
  rw [hf] at h;have hz:∀ k (hk:k < r.Nf.length),rsE p r k r.Nf[k]=0:=fun k hk=>by
   have:=Qiy hf k hk;rwa [show JZ p r k=rsE p r k r.Nf[k] from Jq _ _ _ hk] at this
  have hz2:∀ k (hk:k < r.Nf.length),Ya p r.Nf[k]=true/\r.Nf[k]∉r.Nf.take k:=fun k hk=>by
   have:=hz k hk;unfold rsE at this;cases hb:Ya p r.Nf[k] with
   | false=>rw [hb] at this;cases this
   | true =>
    rw [hb,cond_true] at this;refine ⟨rfl,fun hm=>?_⟩;rw [decide_eq_true hm] at this;cases this
  have h3:r.Ns.length=p.Nb.length/\(r.Ns.zip p.Nb).any (Qaj r)=false:=by
   by_cases h5:r.Ns.length=p.Nb.length
   ·simp only [h5,if_true] at h;refine ⟨h5,?_⟩;cases hb:(r.Ns.zip p.Nb).any (Qaj r) with
    | false=>rfl
    | true=>rw [hb] at h;cases h
   ·simp only [h5,if_false] at h;cases h
  refine ⟨by omega,by omega,fun s hs=>?_,QCq fun k hk=>(hz2 k hk).2,h3.1,h3.2⟩;obtain ⟨k,hk,rfl⟩:=Ec hs;exact (hz2 k hk).1
theorem Qup {p:Ng} (h:(JX p).2=0):PlantOk p:=by
 unfold JX at h;by_cases h1:p.Nf.length=0\/p.Na.length=0
 ·rw [if_pos h1] at h;cases h
 rw [if_neg h1] at h;by_cases h2:8 < p.Nf.length\/3 < p.Na.length\/4 < p.Nb.length\/10 < p.Ni.length
 ·rw [if_pos h2] at h;cases h
 rw [if_neg h2] at h;cases h3:XH (ZF p.Nf) p.Nf.length with
 | some i=>rw [h3] at h;exact absurd h (Qav h3).2.1
 | none =>
  rw [h3] at h;cases h4:XH (ZF p.Na) p.Na.length with
  | some i=>rw [h4] at h;exact absurd h (Qav h4).2.1
  | none =>
   rw [h4] at h;cases h5:XH (Z4 p) p.Nb.length with
   | some i=>rw [h5] at h;exact absurd h (Qav h5).2.1
   | none =>
    rw [h5] at h;cases h6:XH (Z1 p) p.Ni.length with
    | some i=>rw [h6] at h;exact absurd h (Qav h6).2.1
    | none =>
     have hr:∀ r∈p.Ni,rtX p r=0:=fun r hr=>by
      obtain ⟨k,hk,rfl⟩:=Ec hr;have:=Qiy h6 k hk;rw [show Z1 p k=rtE p k p.Ni[k] from Jq _ _ _ hk] at this;unfold rtE at this;by_cases hn:Z0 p.Ni[k].Name ((p.Ni.take k).map (·.Name))=0
      ·rwa [if_pos hn] at this
      ·rw [if_neg hn] at this;exact absurd this hn
     refine ⟨by omega,by omega,by omega,by omega,by omega,by omega,fun s hs=>?_,fun r h=>(Qhe (hr r h)).1,fun r h=>(Qhe (hr r h)).2.1,fun r h=>(Qhe (hr r h)).2.2.1,fun r h=>(Qhe (hr r h)).2.2.2.1,fun r h=>(Qhe (hr r h)).2.2.2.2.1,fun r h=>(Qhe (hr r h)).2.2.2.2.2⟩;obtain ⟨k,hk,rfl⟩:=Ec hs;have:=Qiy h5 k hk;rw [show Z4 p k=swE p k p.Nb[k] from Jq _ _ _ hk] at this;unfold swE at this;by_cases hn:Z0 p.Nb[k].Name ((p.Nb.take k).map (·.Name))=0
     ·rw [if_pos hn] at this;unfold swX at this;cases hb:Ya p p.Nb[k].Nn with
      | true=>rfl
      | false=>rw [hb] at this;cases this
     ·rw [if_neg hn] at this;exact absurd this hn
def Ju (r:Nr) (a b:Int):Bool:=(r.Nf.zip (r.Nf.drop 1)).any fun q=>decide (q.1=a)&&decide (q.2=b)
def Qai (p:Ng) (sw:List Int) (a b:Int):Bool:=p.Ni.any fun r=>Ju r a b&&YH p sw r [a,b]
theorem pairB_iff {r:Nr} {a b:Int}:Ju r a b=true↔∃ k,∃ hk:k+1 < r.Nf.length,r.Nf[k]=a/\r.Nf[k+1]=b:=by
 unfold Ju;rw [List.any_eq_true];constructor
 ·rintro ⟨q,hq,h⟩;obtain ⟨k,hk,rfl⟩:=Ec hq;simp only [Ev,Ej] at hk;simp only [Ei,Eo,Ek,decide_eq_true_eq] at h;refine ⟨k,by omega,h.1,?_⟩;rw [<-h.2];congr 1;omega
 ·rintro ⟨k,hk,h1,h2⟩;refine ⟨(r.Nf[k],r.Nf[k+1]),?_,by simp [h1,h2]⟩;rw [EI];refine ⟨k,by simp only [Ev,Ej];omega,?_⟩;simp only [Ei,Eo,Prod.mk.injEq,true_and];congr 1;omega
structure StateOk (p:Ng) (x:Nd):Prop where
 sw:x.Nb.length=p.Nb.length
 tr:x.Na.length=p.Na.length
 pos:∀ n∈x.Nb,Y8 n=true
 cnt:Qas x.Nh=true
 un:∀ t∈x.Na,(t.Nc=[]/\t.Nk=0)\/(1<=t.Nk/\t.Nk<=t.Nc.length)
 sc:∀ t∈x.Na,∀ s∈t.Nc,Ya p s=true
 nd:∀ t∈x.Na,t.Nc.Nodup
 dj:∀ i j (hi:i < x.Na.length) (hj:j < x.Na.length),i≠j->∀ s∈x.Na[i].Nc,s∉x.Na[j].Nc
 ld:∀ t∈x.Na,∀ k (hk:k+1 < t.Nc.length),Qai p x.Nb t.Nc[k] t.Nc[k+1]=true
theorem QCp:∀ (n:Nat) (l:List Int),l.Nodup->(∀ s∈l,0<=s/\s < (n:Int))->l.length<=n
  | 0,l,_,h=>by
    cases l with
    | nil=>simp
    | cons x xs=>have:=h x (by simp);omega
  | n+1,l,hn,h=>by
    have h1:=QCp n (l.filter fun s=>decide (s≠(n:Int))) (hn.filter _) fun s hs=>by
      rw [List.mem_filter] at hs;have:=h s hs.1;have:=hs.2;simp at this;omega
    have h2:l.length<=(l.filter fun s=>decide (s≠(n:Int))).length+1:=by
      clear h h1
      induction l with
      | nil=>simp
      | cons x xs ih =>
        rw [List.nodup_cons] at hn;by_cases hx:x=(n:Int)
        · have : xs.filter (fun s => decide (s ≠ (n : Int))) = xs := by
            rw [List.filter_eq_self];intro a ha;simp only [ne_eq,decide_not,Es,decide_eq_false_iff_not];intro e;subst hx;subst e;exact hn.1 ha
          rw [List.filter_cons_of_neg (by simp [hx]),this];simp
        · rw [List.filter_cons_of_pos (by simp [hx])];have:=ih hn.2;simp only [List.length_cons];omega
    omega
theorem StateOk.len {p:Ng} {x:Nd} (h:StateOk p x) {t:Nm} (ht:t∈x.Na):t.Nc.length<=p.Nf.length :=
 QCp _ _ (h.nd t ht) fun s hs=>by
  have:=h.sc t ht s hs;unfold Ya at this;simp at this;omega
theorem StateOk.s {p:Ng} (hp:PlantOk p) {x:Nd} (h:StateOk p x):StateS x :=
 ⟨by have:=h.sw;have:=hp.w4;omega,by have:=h.tr;have:=hp.t3;omega,fun t ht=>by have:=h.len ht;have:=hp.s8;omega⟩
end Go.Gw

end
section
set_option maxRecDepth 4096
namespace Go.Gw
open Go
attribute [local irreducible] loop
theorem liesB_iff {p:Ng} {sw:List Int} {r:Nr} {secs:List Int}:YH p sw r secs=true↔∀ k (h1:k < p.Nb.length) (h2:k < r.Ns.length) (h3:k < sw.length),p.Nb[k].Nn∈secs->r.Ns[k]=sw[k]:=by
  unfold YH;rw [Es,Eh];constructor
  · intro h k h1 h2 h3 hm;have:=h (p.Nb[k],(r.Ns[k],sw[k])) (by
      rw [EI];exact ⟨k,by simp only [Ev];omega,by simp only [Ei]⟩)
    simp only [Qfc,hm,decide_true,Et,Es,decide_eq_false_iff_not,Decidable.not_not] at this;exact this
  · intro h q hq;obtain ⟨k,hk,rfl⟩:=Ec hq;simp only [Ev] at hk;simp only [Ei,Qfc,Ek,decide_eq_true_eq,Es,decide_eq_false_iff_not,not_and,Decidable.not_not];exact fun hm=>h k (by omega) (by omega) (by omega) hm
theorem QNy {p:Ng} {sw:List Int} {r:Nr} {a b:List Int} (h:YH p sw r a=true) (hs:∀ s∈b,s∈a):YH p sw r b=true :=
 liesB_iff.2 fun k h1 h2 h3 hm=>liesB_iff.1 h k h1 h2 h3 (hs _ hm)
theorem QNz {p:Ng} {sw:List Int} {r:Nr} {a:List Int} {i:Nat} {v:Int} (hi:∀ h:i < p.Nb.length,p.Nb[i].Nn∉a) (h:YH p sw r a=true):YH p (sw.set i v) r a=true :=
 liesB_iff.2 fun k h1 h2 h3 hm=>by
  have hne:i≠k:=fun e=>by subst e;exact hi h1 hm
  rw [List.getElem_set_ne hne];exact liesB_iff.1 h k h1 h2 (by simpa using h3) hm
theorem leadsB_iff {p:Ng} {sw:List Int} {a b:Int}:Qai p sw a b=true↔∃ r∈p.Ni,Ju r a b=true/\YH p sw r [a,b]=true:=by
 unfold Qai;rw [List.any_eq_true];simp only [Ek]
theorem Qwj {x:Nd} {s:Int} (h:Zw x s=false):∀ t∈x.Na,s∉t.Nc:=by
 unfold Zw at h;rw [Eh] at h;intro t ht hm;exact h t ht (decide_eq_true hm)
theorem Qhj {p:Ng} {x:Nd} (h:StateOk p x) {a:Nat} (ha:a < x.Na.length) {t:Nm} (h1:(t.Nc=[]/\t.Nk=0)\/(1<=t.Nk/\t.Nk<=t.Nc.length)) (h2:∀ s∈t.Nc,Ya p s=true) (h3:t.Nc.Nodup)
  (h4:∀ j (hj:j < x.Na.length),j≠a->∀ s∈t.Nc,s∉x.Na[j].Nc) (h5:∀ k (hk:k+1 < t.Nc.length),Qai p x.Nb t.Nc[k] t.Nc[k+1]=true):StateOk p ⟨x.Nb,x.Na.set a t,x.Nh⟩:=by
 have hm:∀ u∈x.Na.set a t,u=t\/u∈x.Na:=fun u hu=>by
  rcases EB hu with h | h
  ·exact .inr h
  ·exact .inl h
 refine ⟨h.sw,by simpa using h.tr,h.pos,h.cnt,fun u hu=>?_,fun u hu=>?_,fun u hu=>?_,fun i j hi hj hij s hs=>?_,fun u hu=>?_⟩
 ·rcases hm u hu with rfl | hu
  ·exact h1
  ·exact h.un u hu
 ·rcases hm u hu with rfl | hu
  ·exact h2
  ·exact h.sc u hu
 ·rcases hm u hu with rfl | hu
  ·exact h3
  ·exact h.nd u hu
 ·simp only [List.length_set] at hi hj;simp only [List.getElem_set] at hs ⊢;by_cases h6:a=i
  ·rw [if_pos h6] at hs;rw [if_neg (by omega)];exact h4 j hj (by omega) s hs
  ·rw [if_neg h6] at hs;by_cases h7:a=j
   ·rw [if_pos h7];exact fun hm=>h4 i hi (by omega) s hm hs
   ·rw [if_neg h7];exact h.dj i j hi hj hij s hs
 ·rcases hm u hu with rfl | hu
  ·exact h5
  ·exact h.ld u hu
theorem Qix {p:Ng} {e:Nj} (h:YO p e=0):0<=e.Kind/\e.Kind<=6:=by
 unfold YO at h;by_cases h1:¬ (0<=e.Kind/\e.Kind<=6)
 ·rw [if_pos h1] at h;cases h
 ·omega
theorem Qsd {p:Ng} {e:Nj} (h:YO p e=0) (hk:e.Kind=2):0<=e.A/\e.A.toNat < p.Nb.length/\Y8 e.B=true:=by
 have h1:=Qix h;unfold YO at h;rw [if_neg (by omega),if_pos hk] at h;cases hb:Qhr p e.A with
 | false=>rw [hb] at h;cases h
 | true =>
  rw [hb] at h;cases hc:Y8 e.B with
  | false=>rw [hc] at h;cases h
  | true =>
   unfold Qhr at hb;simp at hb;exact ⟨hb.1,by omega,rfl⟩
theorem Qsc {p:Ng} {e:Nj} (h:YO p e=0) (hk:e.Kind≠2):0<=e.A/\e.A.toNat < p.Na.length/\(e.Kind=0->Ya p e.B=true)/\(e.Kind=1->0<=e.B/\e.B.toNat < p.Ni.length)/\(e.Kind≠0->e.Kind≠1->e.B=0):=by
 have h1:=Qix h;unfold YO at h;rw [if_neg (by omega),if_neg hk] at h;cases hb:Zl p e.A with
 | false=>rw [hb] at h;cases h
 | true =>
  rw [hb,cond_true] at h;unfold Zl at hb;simp at hb;refine ⟨hb.1,by omega,fun h0=>?_,fun h0=>?_,fun h0 h2=>?_⟩
  ·rw [if_pos h0] at h;cases hc:Ya p e.B with
   | true=>rfl
   | false=>rw [hc] at h;cases h
  ·rw [if_neg (by omega),if_pos h0] at h;cases hc:Qhg p e.B with
   | false=>rw [hc] at h;cases h
   | true=>unfold Qhg at hc;simp at hc;omega
  ·rw [if_neg h0,if_neg h2] at h;by_cases h3:e.B=0
   ·exact h3
   ·rw [if_neg h3] at h;cases h
theorem Qhu {x:Nd} {e:Nj} (h:e.A.toNat < x.Na.length):ZU x e=x.Na[e.A.toNat]:=by
 unfold ZU;rw [Eb h];rfl
theorem Qwh {p:Ng} {e:Nj} (h:e.A.toNat < p.Nb.length):Qfp p e=p.Nb[e.A.toNat]:=by
 unfold Qfp;rw [Eb h];rfl
theorem Qkm {p:Ng} {e:Nj} (h:e.B.toNat < p.Ni.length):Qam p e=p.Ni[e.B.toNat]:=by
 unfold Qam;rw [Eb h];rfl
theorem Qpt {p:Ng} (hp:PlantOk p) {x:Nd} (h:StateOk p x) {e:Nj} (he:YO p e=0) (hs:Zb p x e=0):StateOk p (X1 p x e):=by
  have hk:=Qix he;unfold X1;by_cases h2:e.Kind=2
  · rw [if_pos h2];obtain ⟨a0,a1,a2⟩:=Qsd he h2;unfold Zb at hs;rw [if_pos h2] at hs;have hn:Zw x (Qfp p e).Nn=false:=by
      cases hb:Zw x (Qfp p e).Nn with
      | false=>rfl
      | true=>rw [hb] at hs;cases hs
    rw [Qwh a1] at hn;refine ⟨by simpa using h.sw,h.tr,fun n hn=>?_,h.cnt,h.un,h.sc,h.nd,h.dj,fun t ht k hk=>?_⟩
    · rcases EB hn with h3 | rfl
      · exact h.pos n h3
      · exact a2
    · obtain ⟨r,hr,h3,h4⟩:=leadsB_iff.1 (h.ld t ht k hk);refine leadsB_iff.2 ⟨r,hr,h3,QNz (fun hi hm=>?_) h4⟩;have h5:=Qwj hn t ht;rcases List.mem_cons.1 hm with e1 | hm
      · rw [e1] at h5;exact h5 (Ea _)
      · rw [Em.1 hm] at h5;exact h5 (Ea _)
  rw [if_neg h2];obtain ⟨a0,a1,a2,a3,a4⟩:=Qsc he h2;have ha:e.A.toNat < x.Na.length:=by rw [h.tr];exact a1
  have ht:ZU x e∈x.Na:=by rw [Qhu ha];exact Ea ha
  have hd:∀ j (hj:j < x.Na.length),j≠e.A.toNat->∀ s∈(ZU x e).Nc,s∉x.Na[j].Nc:=fun j hj hne s hs=>by
    rw [Qhu ha] at hs;exact h.dj _ j ha hj (by omega) s hs
  have hu:=h.un _ ht;have hsc:=h.sc _ ht;have hnd:=h.nd _ ht;have hld:=h.ld _ ht;unfold Zb at hs;rw [if_neg h2] at hs;unfold trX;generalize ZU x e=t at *
  by_cases h0:e.Kind=0
  · rw [if_pos h0] at hs;rw [if_pos h0];by_cases hc:t.Nc.length=0
    · rw [if_pos hc] at hs;have hn:Zw x e.B=false:=by
        cases hb:Zw x e.B with
        | false=>rfl
        | true=>rw [hb] at hs;cases hs
      refine Qhj h ha (.inr (by simp)) (fun s hs=>?_) (by simp) (fun j hj hne s hs hm=>?_) (fun k hk=>?_)
      · simp only [Em] at hs;subst hs;exact a2 h0
      · simp only [Em] at hs;subst hs;exact Qwj hn _ (Ea hj) hm
      · simp at hk
    · rw [if_neg hc] at hs;cases hs
  rw [if_neg h0] at hs;rw [if_neg h0];by_cases hc:t.Nc.length=0
  · rw [if_pos hc] at hs;cases hs
  rw [if_neg hc] at hs;have hu2:1<=t.Nk/\t.Nk<=t.Nc.length:=by
    rcases hu with ⟨h3,_⟩ | h3
    · rw [h3] at hc;exact absurd rfl hc
    · exact h3
  by_cases h1:e.Kind=1
  · rw [if_pos h1] at hs;rw [if_pos h1];obtain ⟨b0,b1⟩:=a3 h1;have hr:Qam p e∈p.Ni:=by rw [Qkm b1];exact Ea b1
    generalize Qam p e=r at *
    by_cases h3:r.Nf.head?=t.Nc.getLast?
    · rw [if_pos h3] at hs;have hn:(r.Nf.drop 1).any (Zw x)=false:=by
        cases hb:(r.Nf.drop 1).any (Zw x) with
        | false=>rfl
        | true=>rw [hb] at hs;cases hs
      have hl:YH p x.Nb r r.Nf=true:=by
        rw [hn] at hs;cases hb:YH p x.Nb r r.Nf with
        | true=>rfl
        | false=>rw [hb] at hs;cases hs
      rw [Eh] at hn;have hn2:∀ s∈r.Nf.drop 1,∀ u∈x.Na,s∉u.Nc:=fun s hs=>Qwj (by have:=hn s hs;simpa using this)
      have h2r:=hp.r2 r hr;have hlast:∀ hi:t.Nc.length - 1 < t.Nc.length,∀ hj:0 < r.Nf.length,t.Nc[t.Nc.length - 1]=r.Nf[0]:=fun hi hj=>by
        rw [EG,EC,Eb hj,Eb hi] at h3;exact (EO.inj h3).symm
      refine Qhj h ha (.inr ?_) (fun s hs=>?_) ?_ (fun j hj hne s hs=>?_) (fun k hk=>?_)
      · simp only [En];omega
      · rcases List.mem_append.1 hs with h4 | h4
        · exact hsc s h4
        · exact hp.rs r hr s (Ew h4)
      · show (t.Nc++r.Nf.drop 1).Nodup;rw [List.nodup_append];refine ⟨hnd,Ez.sublist (List.drop_sublist _ _) (hp.rd r hr),fun s hs u hu e=>?_⟩;subst e;exact hn2 s hu t ht hs
      · rcases List.mem_append.1 hs with h4 | h4
        · exact hd j hj hne s h4
        · exact hn2 s h4 _ (Ea hj)
      · simp only [En,Ej] at hk;by_cases h5:k+1 < t.Nc.length
        · simp only [List.getElem_append,h5,dif_pos,show k < t.Nc.length by omega];exact hld k h5
        · have e2 : (t.Nc ++ r.Nf.drop 1)[k + 1]'(by simp only [En, Ej]; omega) = r.Nf[k + 1 - t.Nc.length + 1]'(by omega) := by
            rw [ED (by omega),Eo];congr 1;omega
          have e1:(t.Nc++r.Nf.drop 1)[k]'(by simp only [En, Ej];omega)=r.Nf[k+1 - t.Nc.length]'(by omega) := by
            by_cases h6:k+1=t.Nc.length
            · rw [List.getElem_append_left (show k < t.Nc.length by omega)];have:=hlast (by omega) (by omega);simp only [show k+1 - t.Nc.length=0 by omega,<-this];congr 1;omega
            · rw [ED (by omega),Eo];congr 1;omega
          rw [e1,e2];refine leadsB_iff.2 ⟨r,hr,pairB_iff.2 ⟨k+1 - t.Nc.length,by omega,rfl,rfl⟩,QNy hl fun s hs=>?_⟩;rcases List.mem_cons.1 hs with rfl | hs
          · exact Ea _
          · rw [Em.1 hs];exact Ea _
    · rw [if_neg h3] at hs;cases hs
  rw [if_neg h1] at hs;rw [if_neg h1];by_cases h4:e.Kind=4
  · rw [if_pos h4] at hs;rw [if_neg (by omega),if_pos h4];have hx:1 < t.Nk:=by
      by_cases h5:1 < t.Nk
      · exact h5
      · rw [if_neg h5] at hs;cases hs
    refine Qhj h ha (.inr ?_) (fun s hs=>hsc s (Ew hs)) (Ez.sublist (List.drop_sublist _ _) hnd) (fun j hj hne s hs=>hd j hj hne s (Ew hs)) (fun k hk=>?_)
    · simp only [Ej];omega
    · simp only [Ej] at hk;simp only [Eo];have:=hld (1+k) (by omega);exact this
  rw [if_neg h4] at hs;rw [show (if e.Kind=4 then (⟨t.Nc.drop 1,t.Nk - 1⟩:Nm) else if e.Kind=5 then ⟨t.Nc.take (t.Nc.length - 1),t.Nk⟩ else ⟨[],0⟩)=(if e.Kind=5 then ⟨t.Nc.take (t.Nc.length - 1),t.Nk⟩ else ⟨[],0⟩) from if_neg h4];by_cases h35:e.Kind=3\/e.Kind=5
  · rw [if_pos h35] at hs;have hx:t.Nk < t.Nc.length:=by
      by_cases h5:t.Nk < t.Nc.length
      · exact h5
      · rw [if_neg h5] at hs;cases hs
    by_cases h3:e.Kind=3
    · rw [if_pos h3];exact Qhj h ha (.inr ⟨by show 1<=t.Nk+1;omega,by show t.Nk+1<=(t.Nc.length:Int);omega⟩) hsc hnd hd hld
    · rw [if_neg h3,if_pos (by omega)];refine Qhj h ha (.inr ?_) (fun s hs=>hsc s (EJ hs)) (Ez.sublist (List.take_sublist _ _) hnd) (fun j hj hne s hs=>hd j hj hne s (EJ hs)) (fun k hk=>?_)
      · simp only [List.length_take];omega
      · simp only [List.length_take] at hk;simp only [List.getElem_take];exact hld k (by omega)
  · rw [if_neg (by omega),if_neg (by omega)];exact Qhj h ha (.inl ⟨rfl,rfl⟩) (fun s hs=>by simp at hs) (by simp) (fun j hj hne s hs=>by simp at hs) (fun k hk=>by simp at hk)
end Go.Gw

end
section
set_option maxRecDepth 4096
namespace Go.Gw
open Go
attribute [local irreducible] loop
def chE (p:Ng) (x:Nd) (n:Nat) (t:Nm) (k:Nat) (s:Int):Int :=
 bif Ya p s then (bif decide (s∈t.Nc.take k)||(x.Na.take n).any (fun o=>decide (s∈o.Nc)) then 17 else if k=0 then 0 else bif Qai p x.Nb (t.Nc[k - 1]?.getD 0) s then 0 else 23) else 6
def JJ (p:Ng) (x:Nd) (n:Nat) (t:Nm) (k:Nat):Int:=(t.Nc[k]?.map (chE p x n t k)).getD 0
def Qap (t:Nm):Bool:=if t.Nc.length=0 then decide (t.Nk=0) else decide (1<=t.Nk)&&decide (t.Nk<=t.Nc.length)
def tsE (p:Ng) (x:Nd) (n:Nat) (t:Nm):Int:=bif Qap t then (match XH (JJ p x n t) t.Nc.length with | some k=>JJ p x n t k | none=>0) else 3
def J5 (p:Ng) (x:Nd) (n:Nat):Int:=(x.Na[n]?.map (tsE p x n)).getD 0
def Qhn (p:Ng) (x:Nd):Int :=
 if x.Nb.length=p.Nb.length/\x.Na.length=p.Na.length then
  (bif x.Nb.all Y8&&Qas x.Nh then (match XH (J5 p x) x.Na.length with | some k=>J5 p x k | none=>0) else 2) else 10
theorem tsE_zero {p:Ng} {x:Nd} {n:Nat} {t:Nm}:tsE p x n t=0↔Qap t=true/\∀ k (hk:k < t.Nc.length),chE p x n t k t.Nc[k]=0:=by
 unfold tsE;cases hu:Qap t with
 | false=>simp
 | true =>
  simp only [cond_true,true_and];have hg:∀ k (hk:k < t.Nc.length),JJ p x n t k=chE p x n t k t.Nc[k]:=fun k hk=>Jq _ _ _ hk
  cases hf:XH (JJ p x n t) t.Nc.length with
  | some k =>
   obtain ⟨h1,h2,_⟩:=Qav hf;constructor
   ·intro h;exact absurd h h2
   ·intro h;exact absurd ((hg k h1).trans (h k h1)) h2
  | none=>exact ⟨fun _ k hk=>(hg k hk).symm.trans (Qiy hf k hk),fun _=>rfl⟩
theorem chE_zero {p:Ng} {x:Nd} {n:Nat} {t:Nm} {k:Nat} {s:Int}:chE p x n t k s=0↔Ya p s=true/\s∉t.Nc.take k/\(∀ o∈x.Na.take n,s∉o.Nc)/\(k≠0->Qai p x.Nb (t.Nc[k - 1]?.getD 0) s=true):=by
  unfold chE;cases Ya p s with
  | false=>simp
  | true =>
    simp only [cond_true,true_and];by_cases h1:s∈t.Nc.take k
    · simp [h1]
    by_cases h2:∀ o∈x.Na.take n,s∉o.Nc
    · have h3 : (x.Na.take n).any (fun o => decide (s ∈ o.Nc)) = false := by
        rw [Eh];intro o ho hm;exact h2 o ho (of_decide_eq_true hm)
      rw [h3,decide_eq_false h1];by_cases hk:k=0
      · simp [hk];exact h2
      · simp only [EM,cond_false,if_neg hk];cases Qai p x.Nb (t.Nc[k - 1]?.getD 0) s with
        | false=>simp [hk]
        | true=>simp [h1];exact h2
    · have h3 : (x.Na.take n).any (fun o => decide (s ∈ o.Nc)) = true := by
        cases hb:(x.Na.take n).any (fun o=>decide (s∈o.Nc)) with
        | true=>rfl
        | false =>
          rw [Eh] at hb;exact absurd (fun o ho hm=>hb o ho (decide_eq_true hm)) h2
      rw [h3,Bool.or_true];simp [h2]
theorem undB_iff {t:Nm}:Qap t=true↔(t.Nc=[]/\t.Nk=0)\/(1<=t.Nk/\t.Nk<=t.Nc.length):=by
 unfold Qap;by_cases h:t.Nc.length=0
 ·rw [if_pos h];have h2:t.Nc=[]:=List.length_eq_zero_iff.1 h;simp only [decide_eq_true_eq];constructor
  ·intro h3;exact .inl ⟨h2,h3⟩
  ·rintro (h3 | h3)
   ·exact h3.2
   ·omega
 ·rw [if_neg h];simp only [Ek,decide_eq_true_eq];constructor
  ·intro h3;exact .inr h3
  ·rintro (h3 | h3)
   ·rw [h3.1] at h;exact absurd rfl h
   ·exact h3
theorem state_iff {p:Ng} {x:Nd}:Qhn p x=0↔StateOk p x:=by
  have hg:∀ k (hk:k < x.Na.length),J5 p x k=tsE p x k x.Na[k]:=fun k hk=>Jq _ _ _ hk
  unfold Qhn;constructor
  · intro h;by_cases h1:x.Nb.length=p.Nb.length/\x.Na.length=p.Na.length
    · rw [if_pos h1] at h;cases h2:x.Nb.all Y8&&Qas x.Nh with
      | false=>rw [h2] at h;cases h
      | true =>
        rw [h2,cond_true] at h;rw [Ek,List.all_eq_true] at h2;cases hf:XH (J5 p x) x.Na.length with
        | some k=>rw [hf] at h;exact absurd h (Qav hf).2.1
        | none =>
          have hz:∀ n (hn:n < x.Na.length),Qap x.Na[n]=true/\∀ k (hk:k < x.Na[n].Nc.length),chE p x n x.Na[n] k x.Na[n].Nc[k]=0:=fun n hn=>tsE_zero.1 ((hg n hn).symm.trans (Qiy hf n hn))
          refine ⟨h1.1,h1.2,h2.1,h2.2,fun t ht=>?_,fun t ht s hs=>?_,fun t ht=>?_,fun i j hi hj hij s hs hm=>?_,fun t ht k hk=>?_⟩
          · obtain ⟨n,hn,rfl⟩:=Ec ht;exact undB_iff.1 (hz n hn).1
          · obtain ⟨n,hn,rfl⟩:=Ec ht;obtain ⟨k,hk,rfl⟩:=Ec hs;exact (chE_zero.1 ((hz n hn).2 k hk)).1
          · obtain ⟨n,hn,rfl⟩:=Ec ht;exact QCq fun k hk=>(chE_zero.1 ((hz n hn).2 k hk)).2.1
          · rcases Nat.lt_or_gt_of_ne hij with h3 | h3
            · obtain ⟨k,hk,rfl⟩:=Ec hm;exact (chE_zero.1 ((hz j hj).2 k hk)).2.2.1 _ (Eg.2 ⟨i,by omega,rfl⟩) hs
            · obtain ⟨k,hk,rfl⟩:=Ec hs;exact (chE_zero.1 ((hz i hi).2 k hk)).2.2.1 _ (Eg.2 ⟨j,by omega,rfl⟩) hm
          · obtain ⟨n,hn,rfl⟩:=Ec ht;have:=(chE_zero.1 ((hz n hn).2 (k+1) hk)).2.2.2 (by omega);rwa [Nat.add_sub_cancel,Eb (show k < x.Na[n].Nc.length by omega),Option.getD_some] at this
    · rw [if_neg h1] at h;cases h
  · intro h;rw [if_pos ⟨h.sw,h.tr⟩,show (x.Nb.all Y8&&Qas x.Nh)=true by rw [Ek,List.all_eq_true];exact ⟨h.pos,h.cnt⟩,cond_true];rw [QLv fun n hn=>by
      rw [hg n hn,tsE_zero];have ht:=Ea hn;refine ⟨undB_iff.2 (h.un _ ht),fun k hk=>chE_zero.2 ⟨h.sc _ ht _ (Ea hk),QTe (h.nd _ ht) hk,fun o ho hm=>?_,fun hk0=>?_⟩⟩
      · obtain ⟨i,hi,rfl⟩:=Eg.1 ho;exact h.dj i n (by omega) hn (by omega) _ hm (Ea hk)
      · rw [Eb (show k - 1 < x.Na[n].Nc.length by omega),Option.getD_some];have:=h.ld _ ht (k - 1) (by omega);simp only [show k - 1+1=k by omega] at this;exact this]
end Go.Gw

end
section
set_option maxRecDepth 4096
namespace Go.Gw
open Go
attribute [local irreducible] loop
theorem Qzr {a b:List Int} (ha:0 < a.length) (hb:0 < b.length):decide (a[0]=b[b.length - 1])=decide (a.head?=b.getLast?):=by
 rw [EG,EC,Eb ha,Eb (show b.length - 1 < b.length by omega)];simp only [EO.injEq]
theorem QIf {p:Ng} (hp:PlantOk p) {x:Nd} (h:StateOk p x) {e:Nj} (he:YO p e=0) :
    Runs (Qjg (some ⟨p,x⟩) e) fun r=>r.2=Zb p x e/\(Zb p x e=0->r.1=some ⟨p,X1 p x e⟩):=by
  have hs:=h.s hp;have hw4:=hp.w4;have ht3:=hp.t3;have hkd:=Qix he;have hsl:=h.sw;have htl:=h.tr;unfold Qjg;by_cases h2:e.Kind=2
  · obtain ⟨a0,a1,a2⟩:=Qsd he h2;have e1:Zb p x e=(bif Zw x (Qfp p e).Nn then 17 else 0):=by unfold Zb;rw [if_pos h2]
    have e2:X1 p x e=⟨x.Nb.set e.A.toNat e.B,x.Na,x.Nh⟩:=by unfold X1;rw [if_pos h2]
    rw [e1,e2,Qwh a1,decide_eq_true h2,cond_true,Qp];show Runs (Ep (idx p.Nb e.A) _) _;rw [Qcv a0 a1,Qp,Qwk p hs _ (by simp),Qp];simp only [EL,List.any_nil,EM];cases Zw x p.Nb[e.A.toNat].Nn with
    | true=>exact Ef ⟨rfl,fun hh=>by cases hh⟩
    | false =>
      simp only [cond_false];rw [QJb _ (by show x.Nb.length < _;omega),Qp];show Runs (Ep (idx x.Nb e.A) _) _;rw [Qcv a0 (by omega),Qp];exact Ef ⟨rfl,fun _=>rfl⟩
  obtain ⟨a0,a1,a2,a3,a4⟩:=Qsc he h2;have ha:e.A.toNat < x.Na.length:=by omega
  have htm:ZU x e∈x.Na:=by rw [Qhu ha];exact Ea ha
  have hcl:=h.len htm;have hs8:=hp.s8;have hu:=h.un _ htm;have e2:X1 p x e=⟨x.Nb,x.Na.set e.A.toNat (trX p (ZU x e) e),x.Nh⟩:=by unfold X1;rw [if_neg h2]
  have hnx:=fun c u=>QQl p x a0 ha (by omega) c u
  rw [e2,decide_eq_false h2,cond_false,Qp];show Runs (Ep (idx x.Na e.A) _) _;rw [Qcv a0 ha,Qp,<-Qhu ha];unfold Zb trX;simp only [if_neg h2];generalize ZU x e=t at *
  by_cases h0:e.Kind=0
  · simp only [if_pos h0,decide_eq_true h0,cond_true];rw [Y5,Qp,Qwk p hs _ (by simp),Qp,Y5,Qp,JB _ (by simp),Qp,Qp];simp only [EL,List.any_nil,EM,QMg];by_cases hc:t.Nc.length=0
    · simp only [hc,Eu,decide_true,cond_true,ne_eq,not_true_eq_false,if_false,if_true];cases Zw x e.B with
      | true=>exact Ef ⟨rfl,fun hh=>by cases hh⟩
      | false =>
        simp only [El,cond_true,decide_true,Ee,cond_false];rw [hnx,Qp];exact Ef ⟨rfl,fun _=>rfl⟩
    · rw [if_neg hc,decide_eq_false (show ¬ (t.Nc.length:Int)=0 by omega)];exact Ef ⟨rfl,fun hh=>by cases hh⟩
  simp only [if_neg h0,decide_eq_false h0,cond_false];by_cases hc:t.Nc.length=0
  · rw [decide_eq_true (show (t.Nc.length:Int)=0 by omega),if_pos hc];exact Ef ⟨rfl,fun hh=>by cases hh⟩
  rw [decide_eq_false (show ¬ (t.Nc.length:Int)=0 by omega),cond_false,Y5,Qp,if_neg hc];have hu2:1<=t.Nk/\t.Nk<=t.Nc.length:=by
    rcases hu with ⟨h3,_⟩ | h3
    · rw [h3] at hc;exact absurd rfl hc
    · exact h3
  by_cases h1:e.Kind=1
  · simp only [if_pos h1,decide_eq_true h1,cond_true];obtain ⟨b0,b1⟩:=a3 h1;rw [show (⟨p,x⟩:Np).Nx.Ni=p.Ni from rfl,Qcv b0 b1,Qp,<-Qkm b1];have hr:Qam p e∈p.Ni:=by rw [Qkm b1];exact Ea b1
    generalize Qam p e=r at *
    have hr2:=hp.r2 r hr;have hr8:=hp.r8 r hr;have hrn:=hp.rn r hr;rw [Qip (by omega),Qp,show (0:Int)=((0:Nat):Int) from rfl,Xj (show 0 < r.Nf.length by omega),Qp,
      show w64 ((t.Nc.length:Int) - 1)=((t.Nc.length - 1:Nat):Int) by rw [Yy (by omega)];omega,Xj (show t.Nc.length - 1 < t.Nc.length by omega),Qp,Y5,Qp,
      Qwk p hs _ (by simp;omega),Qp,Y5,Qp,QAl hrn hsl (by omega) (by omega),Qp,Y5,Qp,JB _ (by simp),Qp,Qzr (by omega) (by omega),Qct]
    by_cases h3:r.Nf.head?=t.Nc.getLast?
    · simp only [h3,decide_true,cond_true,Eu,ne_eq,not_true_eq_false,if_false,if_true];cases hb:(r.Nf.drop 1).any (Zw x) with
      | true=>exact Ef ⟨rfl,fun hh=>by cases hh⟩
      | false =>
        cases hl:YH p x.Nb r r.Nf with
        | false=>exact Ef ⟨rfl,fun hh=>by cases hh⟩
        | true =>
          simp only [El,cond_true,Eu,not_true_eq_false,if_false,decide_true,Ee,cond_false];rw [QJg _ _ (by omega) (by simp;omega),Qp,hnx,Qp];exact Ef ⟨rfl,fun _=>rfl⟩
    · simp only [h3,decide_false,cond_false,if_false];exact Ef ⟨rfl,fun hh=>by cases hh⟩
  simp only [if_neg h1,decide_eq_false h1,cond_false];by_cases h3:e.Kind=3
  · simp only [if_pos h3,decide_eq_true h3,cond_true];rw [if_neg (by omega),if_pos (.inl h3),hnx,Qp,Yy (by omega)];by_cases h5:t.Nk < t.Nc.length
    · rw [if_pos h5,decide_eq_true h5];exact Ef ⟨rfl,fun _=>rfl⟩
    · rw [if_neg h5,decide_eq_false h5];exact Ef ⟨rfl,fun hh=>by cases hh⟩
  simp only [if_neg h3,decide_eq_false h3,cond_false];by_cases h4:e.Kind=4
  · simp only [if_pos h4,decide_eq_true h4,cond_true];rw [Qip (by omega),Qp,hnx,Qp,Y5,Qp,Yy (by omega)];by_cases h5:1 < t.Nk
    · rw [if_pos h5,decide_eq_true h5];exact Ef ⟨rfl,fun _=>rfl⟩
    · rw [if_neg h5,decide_eq_false h5];exact Ef ⟨rfl,fun hh=>by cases hh⟩
  simp only [if_neg h4,decide_eq_false h4,cond_false];by_cases h5:e.Kind=5
  · simp only [if_pos h5,decide_eq_true h5,cond_true];rw [if_pos (.inr h5),show w64 ((t.Nc.length:Int) - 1)=((t.Nc.length - 1:Nat):Int) by rw [Yy (by omega)];omega,Qdq (by omega),Qp,hnx,Qp];by_cases h6:t.Nk < t.Nc.length
    · rw [if_pos h6,decide_eq_true h6];exact Ef ⟨rfl,fun _=>rfl⟩
    · rw [if_neg h6,decide_eq_false h6];exact Ef ⟨rfl,fun hh=>by cases hh⟩
  simp only [if_neg h5,decide_eq_false h5,cond_false];rw [if_neg (by omega),hnx,Qp,Y5,Qp];by_cases h6:t.Nc.length=1
  · rw [if_pos h6,decide_eq_true (by omega)];exact Ef ⟨rfl,fun _=>rfl⟩
  · rw [if_neg h6,decide_eq_false (by omega)];exact Ef ⟨rfl,fun hh=>by cases hh⟩
/-! ### The beginning, copies -/
end Go.Gw

end
section
set_option maxRecDepth 4096
namespace Go.Gw
open Go
attribute [local irreducible] loop
def evE (p:Ng) (x:Nd) (e:Nj):Int:=if YO p e=0 then Zb p x e else YO p e
def evs (p:Ng):Nd->Nat->List Nj->Nd⊕(Nat×Int)
 | x,_,[]=>.inl x
 | x,k,e::l=>if evE p x e=0 then evs p (X1 p x e) (k+1) l else .inr (k,evE p x e)
end Go.Gw

end
section
set_option maxRecDepth 4096
namespace Go.Gw
open Go
attribute [local irreducible] loop
theorem Qgw {σ β ρ:Type} {step:σ->Option (σ⊕ρ)} (n M:Nat) (f:Nat->List β) (S:Nat->List β->σ) (o:List β->ρ) (acc0:List β) (hf:∀ k,k < n->(f k).length<=M)
  (hs:∀ k,k < n->∀ acc:List β,acc.length<=acc0.length+k * M->step (S k acc)=some (.inl (S (k+1) (acc++f k)))) (he:∀ acc,step (S n acc)=some (.inr (o acc))) :
  loop step (S 0 acc0)=some (o (acc0++(Ed n).flatMap f))/\(acc0++(Ed n).flatMap f).length<=acc0.length+n * M:=by
 have key:∀ k,k<=n->(acc0++(Ed k).flatMap f).length<=acc0.length+k * M/\loop step (S 0 acc0)=loop step (S k (acc0++(Ed k).flatMap f)):=by
  intro k
  induction k with
  | zero=>intro _;exact ⟨by simp,by simp⟩
  | succ k ih =>
   intro hk;obtain ⟨h1,h2⟩:=ih (by omega);have e:acc0++(Ed (k+1)).flatMap f=acc0++(Ed k).flatMap f++f k:=by
    rw [List.range_succ,List.flatMap_append,List.append_assoc];simp
   refine ⟨?_,?_⟩
   ·rw [e,En];have:=hf k (by omega);rw [Nat.succ_mul];omega
   ·rw [h2,JC (hs k (by omega) _ h1),e]
 obtain ⟨h1,h2⟩:=key n (Nat.le_refl n);exact ⟨by rw [h2];exact ZE (he _),h1⟩
def ZA (p:Ng) (k:Nat):Nat:=if k=2 then p.Nb.length else p.Na.length
def Y2 (p:Ng) (k:Nat):Nat:=if k=0 then p.Nf.length else if k=1 then p.Ni.length else if k=2 then 2 else 1
def Yc (k a b:Nat):Nj:=⟨(k:Int),(a:Int),(b:Int)⟩
def Yd (p:Ng):List Nj:=(Ed 7).flatMap fun k=>(Ed (ZA p k)).flatMap fun a=>(Ed (Y2 p k)).flatMap fun b=>[Yc k a b]
def YR (p:Ng) (x:Nd):List Nj:=(Yd p).filter fun e=>decide (Zb p x e=0)
theorem Qiw {p:Ng} {k a b:Nat} (hk:k < 7):YO p (Yc k a b)=0↔a < ZA p k/\b < Y2 p k:=by
 unfold YO Yc ZA Y2 Qhr Zl Ya Qhg Y8;simp only;rw [if_neg (by omega)];by_cases h2:k=2
 ·subst h2;simp only [Int.cast_ofNat_Int,if_true,show ¬ (2=0) by omega,show ¬ (2=1) by omega,if_false];by_cases ha:a < p.Nb.length
  ·rw [decide_eq_true (show (0:Int)<=a by omega),decide_eq_true (show (a:Int)<=(p.Nb.length:Int) - 1 by omega)];by_cases hb:b < 2
   ·rw [show (decide ((b:Int)=0)||decide ((b:Int)=1))=true by simp only [Eq_,decide_eq_true_eq];omega];simp [ha,hb]
   ·rw [decide_eq_false (show ¬ (b:Int)=0 by omega),decide_eq_false (show ¬ (b:Int)=1 by omega)];simp [hb]
  ·rw [decide_eq_false (show ¬ (a:Int)<=(p.Nb.length:Int) - 1 by omega),Er];simp [ha]
 ·rw [if_neg (show ¬ (k:Int)=2 by omega),if_neg h2];by_cases ha:a < p.Na.length
  ·rw [decide_eq_true (show (0:Int)<=a by omega),decide_eq_true (show (a:Int)<=(p.Na.length:Int) - 1 by omega)];simp only [Bool.and_self,cond_true,ha,true_and,if_neg h2];by_cases h0:k=0
   ·rw [if_pos (show (k:Int)=0 by omega),if_pos h0];by_cases hb:b < p.Nf.length
    ·rw [decide_eq_true (show (0:Int)<=b by omega),decide_eq_true (show (b:Int)<=(p.Nf.length:Int) - 1 by omega)];simp [hb]
    ·rw [decide_eq_false (show ¬ (b:Int)<=(p.Nf.length:Int) - 1 by omega),Er];simp [hb]
   ·rw [if_neg (show ¬ (k:Int)=0 by omega),if_neg h0];by_cases h1:k=1
    ·rw [if_pos (show (k:Int)=1 by omega),if_pos h1];by_cases hb:b < p.Ni.length
     ·rw [decide_eq_true (show (0:Int)<=b by omega),decide_eq_true (show (b:Int)<=(p.Ni.length:Int) - 1 by omega)];simp [hb]
     ·rw [decide_eq_false (show ¬ (b:Int)<=(p.Ni.length:Int) - 1 by omega),Er];simp [hb]
    ·rw [if_neg (show ¬ (k:Int)=1 by omega),if_neg h1];by_cases hb:b=0
     ·subst hb;simp
     ·rw [if_neg (by omega)];constructor
      ·intro h;cases h
      ·intro h;omega
  ·rw [decide_eq_false (show ¬ (a:Int)<=(p.Na.length:Int) - 1 by omega),Er];simp [ha]
theorem Qmf {p:Ng} {e:Nj} (h:e∈Yd p):YO p e=0:=by
 unfold Yd at h;simp only [List.mem_flatMap,EH,Em] at h;obtain ⟨k,hk,a,ha,b,hb,rfl⟩:=h;exact (Qiw hk).2 ⟨ha,hb⟩
def Zi (p:Ng) (x:Nd) (l:List Nj):List Nu:=(l.filter fun e=>decide (Zb p x e=0)).map fun e=>Nu.mk e (some ⟨p,X1 p x e⟩)
theorem QFk {p:Ng} {x:Nd} {f:Nat->List Nj}:∀ (l:List Nat),Zi p x (l.flatMap f)=l.flatMap fun k=>Zi p x (f k)
 | []=>rfl
 | k::l=>by
  have:=QFk (p:=p) (x:=x) (f:=f) l;unfold Zi at this ⊢;rw [List.flatMap_cons,List.filter_append,List.map_append,this,List.flatMap_cons]
theorem QYd {p:Ng} {x:Nd} {e:Nj}:(Zi p x [e]).length<=1:=by
 unfold Zi;rw [List.length_map];exact List.length_filter_le _ _
theorem QUe {p:Ng} (hp:PlantOk p) {x:Nd} (h:StateOk p x):Qgt (some ⟨p,x⟩)=some (Zi p x (Yd p)):=by
  have hs8:=hp.s8;have ht3:=hp.t3;have hw4:=hp.w4;have hr10:=hp.r10;have hb:∀ k,Y2 p k<=10:=fun k=>by unfold Y2;split<;>(try split)<;>(try split)<;>omega
  have ha:∀ k,ZA p k<=4:=fun k=>by unfold ZA;split<;>omega
  -- the innermost loop
  have l0:∀ k:Nat,k < 7->∀ a:Nat,a < ZA p k->∀ acc:List Nu,acc.length<=1000->loop (Qjj (some ⟨p,x⟩) (k:Int) ((Y2 p k:Nat):Int) (a:Int)) (0,acc)=some (.inr (acc++(Ed (Y2 p k)).flatMap fun b=>Zi p x [Yc k a b]))/\(acc++(Ed (Y2 p k)).flatMap fun b=>Zi p x [Yc k a b]).length<=acc.length+Y2 p k * 1 :=
    fun k hk a hka acc hacc=>Qgw (step:=Qjj (some ⟨p,x⟩) (k:Int) ((Y2 p k:Nat):Int) (a:Int)) (Y2 p k) 1 (fun b=>Zi p x [Yc k a b]) (fun b acc=>((b:Int),acc)) (fun acc=>.inr acc) acc (fun _ _=>QYd) (fun b hbk acc' hl=>by
      have hb':=hb k;have he:YO p (Yc k a b)=0:=(Qiw hk).2 ⟨hka,hbk⟩;obtain ⟨r,hr,h1,h2⟩:=QIf hp h he;unfold Qjj;simp only [Xw hbk,cond_true];rw [show (Nj.mk (k:Int) (a:Int) (b:Int))=Yc k a b from rfl,hr,Qp,h1];by_cases h3:Zb p x (Yc k a b)=0
      · rw [decide_eq_true h3,cond_true,Zp (by simp;omega),Qp,h2 h3,Xf b (by omega)];simp [Zi,h3]
      · rw [decide_eq_false h3,cond_false,Xf b (by omega)];simp [Zi,h3]) (fun acc'=>by
      unfold Qjj;simp only [Xy];rfl)
  have l1:∀ k:Nat,k < 7->∀ acc:List Nu,acc.length<=500->loop (Qjk (some ⟨p,x⟩) (k:Int) ((ZA p k:Nat):Int) ((Y2 p k:Nat):Int)) (0,acc)=some (.inr (acc++(Ed (ZA p k)).flatMap fun a=>(Ed (Y2 p k)).flatMap fun b=>Zi p x [Yc k a b]))/\(acc++(Ed (ZA p k)).flatMap fun a=>(Ed (Y2 p k)).flatMap fun b=>Zi p x [Yc k a b]).length<=acc.length+ZA p k * 10 :=
    fun k hk acc hacc=>Qgw (step:=Qjk (some ⟨p,x⟩) (k:Int) ((ZA p k:Nat):Int) ((Y2 p k:Nat):Int)) (ZA p k) 10 (fun a=>(Ed (Y2 p k)).flatMap fun b=>Zi p x [Yc k a b]) (fun a acc=>((a:Int),acc)) (fun acc=>.inr acc) acc (fun a hka=>by
      have:=(l0 k hk a hka [] (by simp)).2;have:=hb k;simp only [Ex,List.length_nil] at *
      omega) (fun a hka acc' hl=>by
      have ha':=ha k;have hl2:a * 10<=40:=by omega
      unfold Qjk;simp only [Xw hka,cond_true];rw [(l0 k hk a hka acc' (by omega)).1,Qp,Xf a (by omega)];rfl) (fun acc'=>by
      unfold Qjk;simp only [Xy];rfl)
  have l2 := (Qgw (step := Qnh ⟨p, x⟩ (some ⟨p, x⟩)) (ρ := (List Nu) ⊕ (List Nu)) 7 40 (fun k => (Ed (ZA p k)).flatMap fun a => (Ed (Y2 p k)).flatMap fun b => Zi p x [Yc k a b]) (fun k acc => ((k : Int), acc)) (fun acc => .inr acc) [] (fun k hk => by
      have:=(l1 k hk [] (by simp)).2;have:=ha k;simp only [Ex,List.length_nil] at *
      omega) (fun k hk acc hl=>by
      have e:(bif decide ((k:Int)=0) then some (((p.Na.length:Nat):Int),((p.Nf.length:Nat):Int)) else bif decide ((k:Int)=1) then some (((p.Na.length:Nat):Int),((p.Ni.length:Nat):Int)) else bif decide ((k:Int)=2) then some (((p.Nb.length:Nat):Int),2) else some (((p.Na.length:Nat):Int),1))=some (((ZA p k:Nat):Int),((Y2 p k:Nat):Int)):=by
        unfold ZA Y2;by_cases h0:k=0
        · subst h0;rfl
        by_cases h1:k=1
        · subst h1;rfl
        by_cases h2:k=2
        · subst h2;rfl
        rw [decide_eq_false (by omega),decide_eq_false (by omega),decide_eq_false (by omega),if_neg h2,if_neg h0,if_neg h1,if_neg h2];rfl
      unfold Qnh;simp only [show decide ((k:Int) < 7)=true by rw [decide_eq_true_eq];omega,cond_true];show Ep (bif decide ((k:Int)=0) then some (((p.Na.length:Nat):Int),((p.Nf.length:Nat):Int)) else bif decide ((k:Int)=1) then some (((p.Na.length:Nat):Int),((p.Ni.length:Nat):Int)) else bif decide ((k:Int)=2) then some (((p.Nb.length:Nat):Int),2) else some (((p.Na.length:Nat):Int),1)) _=_;rw [e,Qp];simp only;rw [(l1 k hk acc (by simp at hl;omega)).1,Qp,Xf k (by omega)];rfl) (fun acc=>by rfl)).1
  unfold Qgt;rw [Qp];have l3:loop (Qnh ⟨p,x⟩ (some ⟨p,x⟩)) (0,([]:List Nu))=_:=l2;rw [l3,Qp];simp only [Xs,Ex];unfold Yd;simp only [QFk]
end Go.Gw

end
section
set_option maxRecDepth 4096
namespace Go.Gw
open Go
attribute [local irreducible] loop
end Go.Gw

end
section
set_option maxRecDepth 4096
namespace Go.Gw
open Go
attribute [local irreducible] loop
end Go.Gw

end
section
set_option maxRecDepth 4096
namespace Go.Gw
open Go
attribute [local irreducible] loop
theorem Qjb (l:List Int) (v:Int) (hl:l.length < 1000000):Qdj l v=some (decide (v∈l)):=by
 unfold Qdj;rw [Ze l (fun x=>decide (x=v)) (fun _ _=>true),Qp]
 ·rcases Z3 (p:=fun x=>decide (x=v)) (res:=fun _ _=>true) l 0 with ⟨k1,k2⟩ | ⟨j,x,k1,k2,k3⟩
  ·rw [k1,<-Qxv,k2];rfl
  ·rw [k1,<-Qxv,k3];rfl
 ·intro k hk;unfold Qrg;rw [Xw hk,Xj hk,Xf k (by omega)];rfl
 ·unfold Qrg;rw [Xy];rfl
theorem QTi (l:List ByteArray) (s:ByteArray) (hl:l.length < 1000000):Qoy l s=some (Qbk (fun x=>decide (x=s)) l):=by
 unfold Qoy Qbk;rw [Ze l (fun x=>decide (x=s)) (fun k _=>(k:Int)),Qp,Qfo]
 ·intro k hk;unfold Qvg;rw [Xw hk,Xj hk,Xf k (by omega)];rfl
 ·unfold Qvg;rw [Xy];rfl
theorem Qnu (l:List ByteArray) (s:ByteArray):(l.any fun x=>decide (x=s))=YP l s:=by
 unfold YP;congr 1;funext x;exact decide_eq_decide.2 eq_comm
theorem QBn {α:Type} (f:α->ByteArray) (l:List α) (s:ByteArray):(l.any fun x=>decide (f x=s))=YP (l.map f) s:=by
 rw [<-Qnu,List.any_map];rfl
theorem QDk (l:List ByteArray) (hl:l.length < 1000):Qkk l=some (match XH (ZF l) l.length with | some i=>((i:Int),ZF l i) | none=>(0,0)):=by
 unfold Qkk;have key:loop (Qkj l) 0=_:=Qay (step:=Qkj l) (fun k=>(k:Int)) l.length (ZF l) (fun i e=>((i:Int),e)) () (fun k hk _=>by
  have hs:ZF l k=Z0 l[k] (l.take k):=Jq _ _ _ hk;rw [hs];unfold Qkj Z0;rw [Xw hk,cond_true,Xj hk,Qp,Qrc,Qp];cases Qbm l[k]
  ·rfl
  ·simp only [Ee,cond_false,Qp,cond_true];rw [Qdq (by omega),Qp,QTi _ _ (by simp;omega),Qp,Qso,Qnu,Xf k (by omega)];cases YP (l.take k) l[k]<;>rfl) (fun _=>by
  unfold Qkj;rw [Xy];rfl)
 rw [key,Qp];cases XH (ZF l) l.length<;>rfl
theorem Qwb {α ρ:Type} {step:Int->Option (Int⊕(ρ⊕Unit))} (xs:List α) (n:Nat) (hn:n<=xs.length) (p:α->Bool) (c:ρ)
  (hs:∀ k (hk:k < xs.length),k < n->step (k:Int)=(bif p xs[k] then some (.inr (.inl c)) else some (.inl ((k+1:Nat):Int))))
  (he:step (n:Int)=some (.inr (.inr ()))):loop step 0=some (if (xs.take n).any p=true then .inl c else .inr ()):=by
 have hlen:(xs.take n).length=n:=by simp;omega
 rw [Ze (xs.take n) p (fun _ _=>c) (fun k hk=>by
  rw [hlen] at hk;rw [hs k (by omega) hk];simp only [List.getElem_take]) (by rw [hlen];exact he)]
 rcases Z3 (p:=p) (res:=fun _ _=>c) (xs.take n) 0 with ⟨k1,k2⟩ | ⟨j,x,k1,k2,k3⟩
 ·rw [k1,k2];rfl
 ·rw [k1,k3];rfl
theorem QUv {p:Ng} (h:PlantS p) (k:Nat) (hk:k < p.Nb.length):Qpf p k=some (Z4 p k):=by
 have h1:=h.sw;have h2:=h.se;have hs:Z4 p k=swE p k p.Nb[k]:=Jq _ _ _ hk;have l0:loop (Qpd p.Nb[k] (k:Int) p) 0=some (if (p.Nb.take k).any (fun o=>decide (o.Name=p.Nb[k].Name))=true then .inl 5 else .inr ()) :=
  Qwb p.Nb k (by omega) _ _ (fun j hj hjk=>by
   unfold Qpd;rw [Xw hjk,cond_true,Xj hj,Qp,Xf j (by omega)]) (by
   unfold Qpd;rw [Xy];rfl)
 have l1:loop (Qpe p.Nb[k] (k:Int) p) 0=some (if (p.Nb.take k).any (fun o=>decide (o.Nn=p.Nb[k].Nn))=true then .inl 26 else .inr ()) :=
  Qwb p.Nb k (by omega) _ _ (fun j hj hjk=>by
   unfold Qpe;rw [Xw hjk,cond_true,Xj hj,Qp,Xf j (by omega)]) (by
   unfold Qpe;rw [Xy];rfl)
 rw [hs];unfold Qpf swE swX Z0;rw [Xj hk,Qp,Qrc,Qp,l0,l1,QBn (fun o:Nv=>o.Name),show Ji p.Nb[k].Nn 0 (w64 ((p.Nf.length:Int) - 1))=some (Ya p p.Nb[k].Nn) by rw [Qcr,Yy (by omega)];rfl];cases Qbm p.Nb[k].Name
 ·rfl
 ·cases YP ((p.Nb.take k).map (·.Name)) p.Nb[k].Name
  ·cases Ya p p.Nb[k].Nn
   ·rfl
   ·cases (p.Nb.take k).any (fun o=>decide (o.Nn=p.Nb[k].Nn))<;>rfl
  ·rfl
theorem Quq (n:Int):Ji n 0 1=some (Y8 n):=by
 rw [Qcr];congr 1;unfold Y8;rw [EF];simp only [Ek,Eq_,decide_eq_true_eq];omega
theorem QUt {p:Ng} (h:PlantS p) (k:Nat) (hk:k < p.Ni.length):Qpc p k=some (Z1 p k):=by
 have h1:=h.ro;have h2:=h.se;have h3:=h.sw;obtain ⟨_,hr,hn⟩:=h.rn _ (Ea hk);have hs:Z1 p k=rtE p k p.Ni[k]:=Jq _ _ _ hk;have l0:loop (Qoz p.Ni[k] p (k:Int)) 0=some (if (p.Ni.take k).any (fun o=>decide (o.Name=p.Ni[k].Name))=true then .inl 5 else .inr ()) :=
  Qwb p.Ni k (by omega) _ _ (fun j hj hjk=>by
   unfold Qoz;rw [Xw hjk,cond_true,Xj hj,Qp,Xf j (by omega)]) (by
   unfold Qoz;rw [Xy];rfl)
 rw [hs];unfold Qpc rtE;rw [Xj hk,Qp,Qrc,Qp,l0,QBn (fun o:Nr=>o.Name)];generalize p.Ni[k]=r at hr hn ⊢;have l1:loop (Qpa r p) 0=some (match XH (JZ p r) r.Nf.length with | some i=>.inl (JZ p r i) | none=>.inr ()) :=
  Qay (fun k=>(k:Int)) r.Nf.length (JZ p r) (fun _ e=>e) () (fun k hk _=>by
   have hs:JZ p r k=rsE p r k r.Nf[k]:=Jq _ _ _ hk;rw [hs];unfold Qpa rsE;rw [Xw hk,cond_true,Xj hk,Qp,show Ji r.Nf[k] 0 (w64 ((p.Nf.length:Int) - 1))=some (Ya p r.Nf[k]) by rw [Qcr,Yy (by omega)];rfl,Qp,Qdq (by omega),Qp,Qp,Qjb _ _ (by simp;omega),Qp,Xf k (by omega)];cases Ya p r.Nf[k]<;>cases decide (r.Nf[k]∈r.Nf.take k)<;>rfl) (fun _=>by
   unfold Qpa;rw [Xy];rfl)
 have l2:r.Ns.length=p.Nb.length->loop (Qpb r p) 0=some (Yw (Qaj r) (fun _ _=>(2:Int)) 0 (r.Ns.zip p.Nb)):=fun he =>
  Ze (r.Ns.zip p.Nb) _ _ (fun k hk=>by
   rw [Qqr he] at hk;unfold Qpb;rw [Xw hk,cond_true,Xj (show k < p.Nb.length by omega),Qp,Qjb _ _ (by omega),Qp,Xj hk,Xf k (by omega)];simp only [Ei,Qaj,Qp,Quq];cases decide (p.Nb[k].Nn∈r.Nf)<;>rfl) (by
   rw [Qqr he];unfold Qpb;rw [Xy];rfl)
 unfold Z0;cases Qbm r.Name
 ·rfl
 ·cases YP ((p.Ni.take k).map (·.Name)) r.Name
  ·simp only [Ee,cond_false,cond_true,Qp,Xs,if_true,Bool.false_eq_true,if_false];unfold rtX;by_cases h4:r.Nf.length < 2
   ·rw [if_pos h4,decide_eq_true (show (r.Nf.length:Int) < 2 by omega)];rfl
   rw [if_neg h4,decide_eq_false (show ¬ (r.Nf.length:Int) < 2 by omega)];by_cases h5:p.Nf.length < r.Nf.length
   ·rw [if_pos h5,decide_eq_true (show (p.Nf.length:Int) < r.Nf.length by omega)];rfl
   rw [if_neg h5,decide_eq_false (show ¬ (p.Nf.length:Int) < r.Nf.length by omega),l1];simp only [cond_false,Qp];cases XH (JZ p r) r.Nf.length with
   | some i=>rfl
   | none =>
    simp only [Xs];by_cases h6:r.Ns.length=p.Nb.length
    ·rw [if_pos h6,decide_eq_true (show (r.Ns.length:Int)=p.Nb.length by omega),Ee,cond_false,l2 h6,Qp];rcases Z3 (p:=Qaj r) (res:=fun _ _=>(2:Int)) (r.Ns.zip p.Nb) 0 with ⟨k1,k2⟩ | ⟨j,x,k1,k2,k3⟩
     ·rw [k1,k2];rfl
     ·rw [k1,k3];rfl
    ·rw [if_neg h6,decide_eq_false (show ¬ (r.Ns.length:Int)=p.Nb.length by omega)];rfl
  ·rfl
theorem QUm {p:Ng} (h:PlantS p):Qon p=some (JX p):=by
  have h3:=h.sw;have h4:=h.ro;have l0:loop (Qol p) 0=some (match XH (Z4 p) p.Nb.length with | some i=>.inl (Nt.mk 3 i,Z4 p i) | none=>.inr ()) :=
    Qay (fun k=>(k:Int)) p.Nb.length (Z4 p) (fun i e=>(Nt.mk 3 i,e)) () (fun k hk _=>by
      unfold Qol;rw [Xw hk,cond_true,QUv h k hk,Qp,Xf k (by omega)];by_cases h1:Z4 p k=0
      · rw [if_pos h1,decide_eq_true h1];rfl
      · rw [if_neg h1,decide_eq_false h1];rfl) (fun _=>by
      unfold Qol;rw [Xy];rfl)
  have l1:loop (Qom p) 0=some (match XH (Z1 p) p.Ni.length with | some i=>.inl (Nt.mk 4 i,Z1 p i) | none=>.inr ()) :=
    Qay (fun k=>(k:Int)) p.Ni.length (Z1 p) (fun i e=>(Nt.mk 4 i,e)) () (fun k hk _=>by
      unfold Qom;rw [Xw hk,cond_true,QUt h k hk,Qp,Xf k (by omega)];by_cases h1:Z1 p k=0
      · rw [if_pos h1,decide_eq_true h1];rfl
      · rw [if_neg h1,decide_eq_false h1];rfl) (fun _=>by
      unfold Qom;rw [Xy];rfl)
  unfold Qon JX;by_cases h1:p.Nf.length=0\/p.Na.length=0
  · rw [if_pos h1, show (decide ((p.Nf.length : Int) = 0) || decide ((p.Na.length : Int) = 0)) = true by
      simp only [Eq_,decide_eq_true_eq];omega]
    rfl
  rw [if_neg h1,decide_eq_false (show ¬ (p.Nf.length:Int)=0 by omega),decide_eq_false (show ¬ (p.Na.length:Int)=0 by omega)];simp only [Bool.or_self,cond_false];by_cases h2:8 < p.Nf.length\/3 < p.Na.length\/4 < p.Nb.length\/10 < p.Ni.length
  · rw [if_pos h2, show (((decide (8 < (p.Nf.length : Int)) || decide (3 < (p.Na.length : Int))) || decide (4 < (p.Nb.length : Int))) || decide (10 < (p.Ni.length : Int))) = true by
      simp only [Eq_,decide_eq_true_eq];omega]
    rfl
  rw [if_neg h2, show (((decide (8 < (p.Nf.length : Int)) || decide (3 < (p.Na.length : Int))) || decide (4 < (p.Nb.length : Int))) || decide (10 < (p.Ni.length : Int))) = false by
      rw [decide_eq_false (by omega),decide_eq_false (by omega),decide_eq_false (by omega),decide_eq_false (by omega)];rfl]
  rw [cond_false,QDk _ h.se,QDk _ h.tr,l0,l1];have hz:∀ {f:Nat->Int} {n i:Nat},XH f n=some i->f i≠0:=fun hf=>(Qav hf).2.1
  cases h3:XH (ZF p.Nf) p.Nf.length with
  | some i=>simp [hz h3]
  | none =>
    simp only [Qp,decide_true,Ee,cond_false];cases h4:XH (ZF p.Na) p.Na.length with
    | some i=>simp [hz h4]
    | none =>
      simp only [decide_true,Ee,cond_false];cases h5:XH (Z4 p) p.Nb.length with
      | some i=>rfl
      | none =>
        simp only [Xs];cases h6:XH (Z1 p) p.Ni.length with
        | some i=>rfl
        | none=>rfl
theorem QUs {p:Ng} (h:PlantS p):Qor p=some (JX p).2:=by
 unfold Qor;rw [QUm h];rfl
/-! ### Copies -/
theorem Qey (l:List Int) (h:l.length < 1000000):Qbi l=some l:=by
 unfold Qbi;rw [Zp (by simp;omega)];rfl
theorem Qyp (l:List ByteArray) (h:l.length < 1000000):Qih l=some l:=by
 unfold Qih;rw [Zp (by simp;omega)];rfl
theorem Qej {α:Type} (l:List α) (k:Nat) (hk:k < l.length):l.take k++[l[k]]=l.take (k+1):=by
 have:=Qdd l id k hk;simp
theorem QJj {p:Ng} (h:PlantS p):Qoo p=some p:=by
 have h1:=h.se;have h2:=h.tr;have h3:=h.sw;have h4:=h.ro;have hl:=Qnt (step:=Qjx p) (o:=p.Ni) (fun k=>((k:Int),p.Ni.take k)) p.Ni.length (fun k hk=>by
  obtain ⟨_,hr,hn⟩:=h.rn _ (Ea hk);unfold Qjx;simp only [Xw hk,cond_true,Xj hk,Qp];rw [Qey _ (by omega),Qp,Qey _ (by omega),Qp,Zp (by simp;omega),Qp,Xf k (by omega),Qej _ _ hk]) (by
  unfold Qjx;simp only [Xy,EE];rfl)
 have hl2:loop (Qjx p) (0,([]:List Nr))=some p.Ni:=hl;unfold Qoo;rw [Qyp _ (by omega),Qp,Qyp _ (by omega),Qp,Zp (by simp;omega),Qp,Qp];simp only [Ex];rw [hl2];rfl
theorem Qmb {x:Nd} (h:StateS x):Qcd x=some x:=by
 have h1:=h.sw;have h2:=h.tr;have hl:=Qnt (step:=Qjy x) (o:=x.Na) (fun k=>((k:Int),x.Na.take k)) x.Na.length (fun k hk=>by
  unfold Qjy;simp only [Xw hk,cond_true,Xj hk,Qp];rw [Qey _ (by have:=h.ch _ (Ea hk);omega),Qp,Zp (by simp;omega),Qp,Xf k (by omega)];show some (Sum.inl (_,x.Na.take k++[x.Na[k]]))=_;rw [Qej _ _ hk]) (by
  unfold Qjy;simp only [Xy,EE];rfl)
 have hl2:loop (Qjy x) (0,([]:List Nm))=some x.Na:=hl;unfold Qcd;rw [Qey _ (by omega),Qp,Qp];simp only;rw [hl2];rfl
theorem Qzg (p:Ng):Qfb p=some true/\PlantS p/\(p.Nf.length<=4\/8 < p.Nf.length)\/Qfb p=some false:=by
 unfold Qfb;cases hb:(((((decide (4 < (p.Nf.length:Int))&&decide ((p.Nf.length:Int)<=8))||decide (10 < (p.Nf.length:Int)))||decide (5 < (p.Na.length:Int)))||decide (6 < (p.Nb.length:Int)))||decide (12 < (p.Ni.length:Int))) with
 | true=>exact .inr rfl
 | false =>
  rw [cond_false];simp only [EK,Bool.and_eq_false_iff,decide_eq_false_iff_not] at hb;have h1:p.Nf.length < 1000:=by omega
  have h2:p.Na.length < 1000:=by omega
  have h3:p.Nb.length < 1000:=by omega
  have h4:p.Ni.length < 1000:=by omega
  have l0:loop (Qmq p) 0=some (Yw (fun s:ByteArray=>decide (20 < (s.size:Int))) (fun _ _=>false) 0 p.Nf):=Ze p.Nf _ _ (fun k hk=>by
   unfold Qmq;rw [Xw hk,cond_true,Xj hk,Qp,Xf k (by omega)]) (by unfold Qmq;rw [Xy];rfl)
  have l1:loop (Qmr p) 0=some (Yw (fun s:ByteArray=>decide (20 < (s.size:Int))) (fun _ _=>false) 0 p.Na):=Ze p.Na _ _ (fun k hk=>by
   unfold Qmr;rw [Xw hk,cond_true,Xj hk,Qp,Xf k (by omega)]) (by unfold Qmr;rw [Xy];rfl)
  have l2:loop (Qms p) 0=some (Yw (fun s:Nv=>decide (20 < (s.Name.size:Int))) (fun _ _=>false) 0 p.Nb):=Ze p.Nb _ _ (fun k hk=>by
   unfold Qms;rw [Xw hk,cond_true,Xj hk,Qp,Xf k (by omega)]) (by unfold Qms;rw [Xy];rfl)
  have l3:loop (Qmt p) 0=some (Yw (fun r:Nr=>decide (20 < (r.Name.size:Int))||(decide (10 < (r.Nf.length:Int))||decide (6 < (r.Ns.length:Int)))) (fun _ _=>false) 0 p.Ni):=Ze p.Ni _ _ (fun k hk=>by
   unfold Qmt;simp only [Xw hk,cond_true,Xj hk,Qp,Xf k (show k < 4611686018427387904 by omega)];cases decide (20 < (p.Ni[k].Name.size:Int))<;>cases decide (10 < (p.Ni[k].Nf.length:Int))<;>cases decide (6 < (p.Ni[k].Ns.length:Int))<;>rfl) (by unfold Qmt;rw [Xy];rfl)
  rw [l0,l1,l2,l3];simp only [Qp];rcases Z3 (p:=fun s:ByteArray=>decide (20 < (s.size:Int))) (res:=fun _ _=>false) p.Nf 0 with ⟨k1,k2⟩ | ⟨j,x,k1,k2,k3⟩
  ·rw [k1];rcases Z3 (p:=fun s:ByteArray=>decide (20 < (s.size:Int))) (res:=fun _ _=>false) p.Na 0 with ⟨m1,m2⟩ | ⟨j,x,m1,m2,m3⟩
   ·rw [m1];rcases Z3 (p:=fun s:Nv=>decide (20 < (s.Name.size:Int))) (res:=fun _ _=>false) p.Nb 0 with ⟨n1,n2⟩ | ⟨j,x,n1,n2,n3⟩
    ·rw [n1];rcases Z3 (p:=fun r:Nr=>decide (20 < (r.Name.size:Int))||(decide (10 < (r.Nf.length:Int))||decide (6 < (r.Ns.length:Int)))) (res:=fun _ _=>false) p.Ni 0 with ⟨o1,o2⟩ | ⟨j,x,o1,o2,o3⟩
     ·rw [o1];rw [Eh] at k2 m2 n2 o2;refine .inl ⟨rfl,⟨h1,h2,h3,h4,fun s hs=>?_,fun s hs=>?_,fun s hs=>?_,fun r hr=>?_⟩,by omega⟩
      ·have:=k2 s hs;simp at this;omega
      ·have:=m2 s hs;simp at this;omega
      ·have:=n2 s hs;simp at this;omega
      ·have:=o2 r hr;simp at this;omega
     ·rw [o1];exact .inr rfl
    ·rw [n1];exact .inr rfl
   ·rw [m1];exact .inr rfl
  ·rw [k1];exact .inr rfl
theorem QLx (x:Nd):Qgo x=some true/\StateS x\/Qgo x=some false:=by
 unfold Qgo;cases hb:(decide (6 < (x.Nb.length:Int))||decide (5 < (x.Na.length:Int))) with
 | true=>exact .inr rfl
 | false =>
  rw [cond_false];simp only [EK,decide_eq_false_iff_not] at hb;have l0:loop (Qmu x) 0=some (Yw (fun t:Nm=>decide (10 < (t.Nc.length:Int))) (fun _ _=>false) 0 x.Na):=Ze x.Na _ _ (fun k hk=>by
   unfold Qmu;rw [Xw hk,cond_true,Xj hk,Qp,Xf k (by omega)]) (by unfold Qmu;rw [Xy];rfl)
  rw [l0,Qp];rcases Z3 (p:=fun t:Nm=>decide (10 < (t.Nc.length:Int))) (res:=fun _ _=>false) x.Na 0 with ⟨k1,k2⟩ | ⟨j,y,k1,k2,k3⟩
  ·rw [k1];rw [Eh] at k2;refine .inl ⟨rfl,by omega,by omega,fun t ht=>?_⟩;have:=k2 t ht;simp at this;omega
  ·rw [k1];exact .inr rfl
end Go.Gw

end
