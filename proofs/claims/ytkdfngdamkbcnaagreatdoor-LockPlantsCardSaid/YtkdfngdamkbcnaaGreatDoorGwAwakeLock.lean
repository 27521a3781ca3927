/- Laws of the walk. Condition: each theorem says its own. -/
import Derived.Test.YtkdfngdamkbcnaaGreatDoorGwOnA
import Derived.Test.YtkdfngdamkbcnaaGreatDoorGwLib21
set_option linter.unusedVariables false
set_option linter.unusedSimpArgs false
set_option linter.unusedSectionVars false
section
set_option maxRecDepth 100000
namespace Go.Gw
open Go
theorem QBf:Qny=some true:=by decide +kernel
end Go.Gw

end
section
set_option linter.unusedSectionVars false
namespace Go.Gw
section
variable {α β γ σ ρ:Type}
def Yr (p:α->Bool) (res:Nat->α->ρ):Nat->List α->ρ⊕Unit
 | _,[]=>.inr ()
 | k,x::xs=>if p x then .inl (res k x) else Yr p res (k+1) xs
theorem Zo {step:Int->Option (Int⊕(ρ⊕Unit))} (xs:List α) (p:α->Bool) (res:Nat->α->ρ)
  (hs:∀ k (hk:k < xs.length),step (k:Int)=(bif p xs[k] then some (.inr (.inl (res k xs[k]))) else some (.inl ((k+1:Nat):Int))))
  (he:step (xs.length:Int)=some (.inr (.inr ()))):loop step 0=some (Yr p res 0 xs):=by
 have key:∀ j k,j+k=xs.length->loop step (k:Int)=some (Yr p res k (xs.drop k)):=by
  intro j
  induction j with
  | zero =>
   intro k hk;obtain rfl:k=xs.length:=by omega
   rw [List.drop_length];exact Qfv he
  | succ j ih =>
   intro k hk;have hlt:k < xs.length:=by omega
   rw [List.drop_eq_getElem_cons hlt];have:=hs k hlt;cases hp:p xs[k] with
   | true=>simp_all [Qfv,Yr,if_true]
   | false=>grind [Qji,Yr]
 have:=key xs.length 0 (by omega);trivial

def fld (f:Nat->γ->α->γ):Nat->γ->List α->γ
 | _,a,[]=>a
 | k,a,x::xs=>fld f (k+1) (f k a x) xs
theorem XO (k:Nat) (h:k < 4611686018427387904):w64 ((k:Int)+1)=((k+1:Nat):Int):=by grind [Xz]
theorem X6 {k n:Nat} (h:k < n):decide ((k:Int) < (n:Int))=true:=by simp;omega
theorem X7 (n:Nat):decide ((n:Int) < (n:Int))=false:=by simp
end
end Go.Gw

end
section
set_option maxRecDepth 4096
namespace Go.Gw
open Go
def JI:List Int->Int
 | []=>0
 | x::xs=>if x=0 then JI xs else x
theorem Qar (l:List Int) (hl:l.length < 1073741824):Zv l=some (JI l):=by
  unfold Zv;rw [Zo l (fun x=>!decide (x=0)) (fun _ x=>x)]
  · have key : ∀ (l : List Int) k, (Xu (Yr (fun x => !decide (x = 0)) (fun _ x => x) k l) fun (_ : Unit) => some 0) = some (JI l) := by
      intro l
      induction l with
      | nil=>intro k;rfl
      | cons x xs ih =>
        intro k;by_cases h:x=0
        · simp [Yr,JI,h];exact ih _
        · simp [Yr,JI,h,Xu]
    simpa using key l 0
  · intro k hk;unfold Qoj;rw [X6 hk,Xw hk,XO k (by omega)];rfl
  · unfold Qoj;rw [X7];rfl
theorem JN (b:Bool) (e:Int):Yh b e=some (bif b then 0 else e):=by cases b<;>rfl
theorem Qzn (n lo hi:Int):JK n lo hi=some (decide (lo<=n)&&decide (n<=hi)):=rfl
end Go.Gw

end
section
set_option maxRecDepth 4096
namespace Go.Gw
open Go
end Go.Gw

end
section
set_option maxRecDepth 4096
namespace Go.Gw
open Go
attribute [local irreducible] loop
end Go.Gw

end
section
set_option maxRecDepth 4096
namespace Go.Gw
open Go
attribute [local irreducible] loop
end Go.Gw

end
section
set_option maxRecDepth 4096
namespace Go.Gw
open Go
attribute [local irreducible] loop
theorem Qlf {α:Type} (p:α->Bool):∀ (l:List α) (k:Nat),(Xu (β:=Int) (Yr p (fun k _=>(k:Int)) k l) fun (_:Unit)=>some (-1))=some (match Yr p (fun k _=>(k:Int)) k l with | .inl i=>i | .inr _=>-1)
 | l,k=>by cases Yr p (fun k _=>(k:Int)) k l<;>rfl
theorem Qle {α:Type} (p:α->Bool):∀ (l:List α) (k:Nat),decide (0<=(match Yr p (fun k _=>(k:Int)) k l with | .inl i=>i | .inr _=>(-1:Int)))=l.any p
 | [],k=>by simp [Yr]
 | x::xs,k=>by
  by_cases h:p x=true
  ·simp [Yr,h]
  ·simp only [Yr,h,List.any_cons];have:=Qle p xs (k+1);simpa [h] using this
theorem Jx {α ρ:Type} {p:α->Bool} {res:Nat->α->ρ}:∀ (l:List α) (k:Nat),(Yr p res k l=.inr ()/\l.any p=false)\/∃ j x,Yr p res k l=.inl (res j x)/\p x=true/\l.any p=true
 | [],k=>.inl ⟨rfl,rfl⟩
 | x::xs,k=>by
  by_cases h:p x=true
  ·exact .inr ⟨k,x,by simp [Yr,h],h,by simp [h]⟩
  ·rcases Jx xs (k+1) (p:=p) (res:=res) with ⟨h1,h2⟩ | ⟨j,y,h1,h2,h3⟩
   ·exact .inl ⟨by simp [Yr,h,h1],by simp [h,h2]⟩
   ·exact .inr ⟨j,y,by simp [Yr,h,h1],h2,by simp [h3]⟩
def XT (f:Nat->Int) (n:Nat):Option Nat:=(List.range n).find? fun i=>decide (f i≠0)
theorem Qif (f:Nat->Int) (n:Nat):(XT f n=none/\∀ j,j < n->f j=0)\/∃ i,XT f n=some i/\i < n/\f i≠0/\∀ j,j < i->f j=0:=by
 cases h:XT f n with
 | none =>
  refine .inl ⟨rfl,fun j hj=>?_⟩;have:=List.find?_eq_none.1 h j (List.mem_range.2 hj);simpa using this
 | some i =>
  right;obtain ⟨h1,h2,h3⟩:=List.find?_range_eq_some.1 h;exact ⟨i,rfl,List.mem_range.1 h2,by simpa using h1,fun j hj=>by have:=h3 j hj;simpa using this⟩
theorem Qbr {σ ρ μ:Type} {step:σ->Option (σ⊕(ρ⊕μ))} (S:Nat->σ) (n:Nat) (f:Nat->Int) (res:Nat->Int->ρ) (o:μ)
  (hs:∀ k,k < n->(∀ j,j < k->f j=0)->step (S k)=if f k=0 then some (.inl (S (k+1))) else some (.inr (.inl (res k (f k))))) (he:(∀ j,j < n->f j=0)->step (S n)=some (.inr (.inr o))) :
  loop step (S 0)=some (match XT f n with | some i=>.inl (res i (f i)) | none=>.inr o):=by
 rcases Qif f n with ⟨h1,h2⟩ | ⟨i,h1,h2,h3,h4⟩
 ·rw [h1];exact Qor S n (fun k hk=>by rw [hs k hk fun j hj=>h2 j (by omega),if_pos (h2 k hk)]) (he h2)
 ·rw [h1];exact Qor S i (fun k hk=>by rw [hs k (by omega) fun j hj=>h4 j (by omega),if_pos (h4 k hk)]) (by rw [hs i h2 h4,if_neg h3])
/-! ### Names -/
def Qfc (q:Int×Nat):Bool:=(!(((decide (97<=q.1))&&(decide (q.1<=122)))||((decide (65<=q.1))&&(decide (q.1<=90)))))&&((decide ((q.2:Int)=0))||((!decide (q.1=45))&&((decide (q.1 < 48))||(decide (57 < q.1)))))
def bi (s:ByteArray):List Int:=bl s
theorem Qhx (s:ByteArray):(bi s).length=s.size:=JU s
theorem Qtp {s:ByteArray} {k:Nat} (h:k < (bi s).length):idx (α:=Int) (bl s) (k:Int)=some (bi s)[k]:=Xw (xs:=bi s) h
def JZ (s:ByteArray):Bool:=decide (1<=s.size)&&(decide (s.size<=12)&&!((bi s).zipIdx.any Qfc))
theorem Qxn (s:ByteArray):s=ByteArray.mk #[]↔s.size=0:=by
 constructor
 ·intro h;subst h;rfl
 ·intro h;cases s with
  | mk d =>
   congr 1;exact Array.eq_empty_of_size_eq_zero h
theorem Qmp (s:ByteArray):Qdn s=some (JZ s):=by
  unfold Qdn JZ;have hlen:(bi s).zipIdx.length=s.size:=by rw [List.length_zipIdx,Qhx]
  by_cases h:1<=s.size/\s.size<=12
  · have : (decide ((s.size : Int) < 1) || decide (12 < (s.size : Int))) = false := by
      rw [decide_eq_false (by omega),decide_eq_false (by omega)];rfl
    rw [this,cond_false,Zo (bi s).zipIdx Qfc (fun _ _=>false),QE]
    · rcases Jx (p:=Qfc) (res:=fun _ _=>false) (bi s).zipIdx 0 with ⟨k1,k2⟩ | ⟨j,x,k1,k2,k3⟩
      · rw [k1,k2];simp [h,Xu]
      · rw [k1,k3];simp [Xu]
    · intro k hk;rw [hlen] at hk;unfold Qmu;rw [X6 hk,cond_true,Qtp (show k < (bi s).length by rw [Qhx];exact hk),QE,XO k (by omega)];simp only [List.getElem_zipIdx,Nat.zero_add];rfl
    · rw [hlen];unfold Qmu;rw [X7];rfl
  · have : (decide ((s.size : Int) < 1) || decide (12 < (s.size : Int))) = true := by
      by_cases h1:s.size < 1
      · rw [decide_eq_true (by omega)];rfl
      · rw [decide_eq_true (p:=12 < (s.size:Int)) (by omega)];simp
    rw [this,cond_true];congr 1;by_cases h1:1<=s.size
    · rw [decide_eq_false (p:=s.size<=12) (by omega)];simp
    · rw [decide_eq_false h1];rfl
theorem Qnt (s:ByteArray) (hs:s.size<=1000):Qea s=some (JZ s):=by
 unfold Qea JZ;have hlen:(bi s).zipIdx.length=s.size:=by rw [List.length_zipIdx,Qhx]
 have ht:tob s=some (bl s):=by unfold tob;rw [if_pos (by omega)]
 rw [ht,QE,Zo (bi s).zipIdx Qfc (fun _ _=>false),QE]
 ·rcases Jx (p:=Qfc) (res:=fun _ _=>false) (bi s).zipIdx 0 with ⟨k1,k2⟩ | ⟨j,x,k1,k2,k3⟩
  ·rw [k1,k2];simp only [Xu,Bool.not_false,Bool.and_true,Option.some.injEq];by_cases h0:s.size=0
   ·rw [decide_eq_true ((Qxn s).2 h0),decide_eq_false (show ¬ 1<=s.size by omega)];rfl
   ·rw [decide_eq_false (fun e=>h0 ((Qxn s).1 e)),decide_eq_true (show 1<=s.size by omega)];simp only [Bool.not_false,Bool.true_and];by_cases h1:s.size<=12
    ·rw [decide_eq_true h1,decide_eq_true (by omega)]
    ·rw [decide_eq_false h1,decide_eq_false (by omega)]
  ·rw [k1,k3];simp [Xu]
 ·intro k hk;rw [hlen] at hk;have hk2:k < (bl s).length:=by rw [JU];exact hk
  unfold Qon;rw [X6 hk2,cond_true,Qtp (show k < (bi s).length by rw [Qhx];exact hk),QE,XO k (by omega)];simp only [List.getElem_zipIdx,Nat.zero_add];rfl
 ·rw [hlen,show (s.size:Int)=((bl s).length:Int) by rw [JU]];unfold Qon;rw [X7];rfl
theorem Qhy (n lo hi:Int):Qao n lo hi=some (decide (lo<=n)&&decide (n<=hi)):=rfl
theorem Qtl (a b:Int):JI [a,b]=if a≠0 then a else b:=by
 unfold JI JI JI;by_cases h:a=0<;>by_cases h2:b=0<;>simp [h,h2]
theorem Qtd {α:Type} [DecidableEq α]:∀ (a b:List α) (hl:a.length=b.length) (k:Nat),(Xu (Yr (fun (x:α×α)=>!decide (x.1=x.2)) (fun _ _=>false) k (a.zip b)) fun (_:Unit)=>some true)=some (decide (a=b))
 | [],[],_,k=>by simp [Yr,Xu]
 | [],_::_,hl,_=>by simp at hl
 | _::_,[],hl,_=>by simp at hl
 | x::a,y::b,hl,k=>by
  by_cases hxy:x=y
  ·subst hxy;have:=Qtd a b (by simpa using hl) (k+1);simp only [List.zip_cons_cons,Yr];simpa using this
  ·simp [Yr,hxy,Xu]
theorem Qzz {α:Type} {a b:List α} (hl:a.length=b.length):(a.zip b).length=a.length:=by simp [hl]
theorem JY {α:Type} (l:List α) (f:α->Int) (k:Nat) (hk:k < l.length):(l[k]?.map f).getD 0=f l[k]:=by rw [List.getElem?_eq_getElem hk];rfl
theorem Qyn {α β:Type} (l:List α) (f:α->β) (k:Nat) (hk:k < l.length):(l.take k).map f++[f l[k]]=(l.take (k+1)).map f:=by
 rw [List.take_add_one,List.getElem?_eq_getElem hk,List.map_append];rfl
theorem Qmd {α β:Type} {a:List α} {b:List β} (hl:a.length=b.length):(a.zip b).length=a.length:=by simp [hl]
theorem Qfk {α:Type} {xs:List α} {k:Nat} (h:k<=xs.length):cut xs 0 (k:Int)=some (xs.take k):=by
 unfold cut;rw [if_pos (by omega),Int.toNat_natCast];rfl
theorem QBa {α:Type} [DecidableEq α] (l:List α) (v:α):(l.any fun x=>decide (v=x))=decide (v∈l):=by
 rw [Bool.eq_iff_iff];simp
theorem Qsa {α:Type} [DecidableEq α] (l:List α) (v:α):(l.any fun x=>decide (x=v))=decide (v∈l):=by
 rw [Bool.eq_iff_iff];simp
def Qdy {α:Type} (p:α->Bool) (l:List α):Int:=match Yr p (fun k _=>(k:Int)) 0 l with | .inl i=>i | .inr _=>(-1:Int)
theorem Qtv {α:Type} (p:α->Bool) (l:List α):decide (0<=Qdy p l)=l.any p:=Qle p l 0
theorem QFu (l:List Int) (v:Int) (hl:l.length < 1000000):Qkw l v=some (Qdy (fun x=>decide (v=x)) l):=by
 unfold Qkw Qdy;rw [Zo l (fun x=>decide (v=x)) (fun k _=>(k:Int)),QE,Qlf]
 ·intro k hk;unfold Qqh;rw [X6 hk,Xw hk,XO k (by omega)];rfl
 ·unfold Qqh;rw [X7];rfl
theorem Qnc (l:List Int) (v:Int) (hl:l.length < 1000000):Qbw l v=some (decide (v∈l)):=by
 unfold Qbw;rw [QFu l v hl,QE,Qtv,QBa]
end Go.Gw

end
section
set_option maxRecDepth 4096
namespace Go.Gw
open Go
attribute [local irreducible] loop
def Zi (s:ByteArray) (others:List ByteArray):Int:=bif JZ s then (bif Y0 others s then 5 else 0) else 4
def Y1 (l:List ByteArray) (k:Nat):Int:=(l[k]?.map fun s=>Zi s (l.take k)).getD 0
def YU (p:Nd) (n:Int):Bool:=decide (0<=n)&&decide (n<=(p.Nb.length:Int) - 1)
def swX (p:Nd) (k:Nat) (s:Nm):Int:=bif YU p s.Nn then (bif (p.Nf.take k).any (fun o=>decide (o.Nn=s.Nn)) then 26 else 0) else 6
def swE (p:Nd) (k:Nat) (s:Nm):Int:=if Zi s.Name ((p.Nf.take k).map (·.Name))=0 then swX p k s else Zi s.Name ((p.Nf.take k).map (·.Name))
def Zl (p:Nd) (k:Nat):Int:=(p.Nf[k]?.map (swE p k)).getD 0
def rsE (p:Nd) (r:Ni) (k:Nat) (s:Int):Int:=bif YU p s then (bif decide (s∈r.Nb.take k) then 26 else 0) else 6
def Z9 (p:Nd) (r:Ni) (k:Nat):Int:=(r.Nb[k]?.map (rsE p r k)).getD 0
def J0 (r:Ni) (q:Int×Nm):Bool:=bif decide (q.2.Nn∈r.Nb) then !(decide (q.1=0)||decide (q.1=1)) else !decide (q.1=-1)
def rtX (p:Nd) (r:Ni):Int :=
 if r.Nb.length < 2 then 10 else if p.Nb.length < r.Nb.length then 8 else
 match XT (Z9 p r) r.Nb.length with
 | some i=>Z9 p r i
 | none=>if r.Nq.length=p.Nf.length then (bif (r.Nq.zip p.Nf).any (J0 r) then 2 else 0) else 10
def rtE (p:Nd) (k:Nat) (r:Ni):Int:=if Zi r.Name ((p.Nc.take k).map (·.Name))=0 then rtX p r else Zi r.Name ((p.Nc.take k).map (·.Name))
def Zj (p:Nd) (k:Nat):Int:=(p.Nc[k]?.map (rtE p k)).getD 0
def Z7 (p:Nd):Nh×Int :=
 if p.Nb.length=0\/p.Ng.length=0 then (Nh.mk 0 0,10) else if 8 < p.Nb.length\/3 < p.Ng.length\/4 < p.Nf.length\/10 < p.Nc.length then (Nh.mk 0 0,8) else
 match XT (Y1 p.Nb) p.Nb.length with
 | some i=>(Nh.mk 1 i,Y1 p.Nb i)
 | none=>match XT (Y1 p.Ng) p.Ng.length with
  | some i=>(Nh.mk 2 i,Y1 p.Ng i)
  | none=>match XT (Zl p) p.Nf.length with
   | some i=>(Nh.mk 3 i,Zl p i)
   | none=>match XT (Zj p) p.Nc.length with
    | some i=>(Nh.mk 4 i,Zj p i)
    | none=>(Nh.mk 0 0,0)
structure PlantS (p:Nd):Prop where
 se:p.Nb.length < 1000
 tr:p.Ng.length < 1000
 sw:p.Nf.length < 1000
 ro:p.Nc.length < 1000
 sn:∀ s∈p.Nb,s.size<=1000
 tn:∀ s∈p.Ng,s.size<=1000
 wn:∀ s∈p.Nf,s.Name.size<=1000
 rn:∀ r∈p.Nc,r.Name.size<=1000/\r.Nb.length < 1000/\r.Nq.length < 1000
theorem Qnr {α:Type} (l:List α) (f:α->ByteArray) (k:Nat) (hk:k < l.length) (h:Y0 ((l.take k).map f) (f l[k])=false):ZF ((l.take k).map f) (f l[k])=(l.take (k+1)).map f:=by
 unfold ZF;rw [h,if_neg (by simp),Qyn l f k hk]
theorem Qov (s:ByteArray) (others:List ByteArray):JI [bif JZ s then 0 else 4,bif !(Y0 others s) then 0 else 5]=Zi s others:=by
 unfold Zi;cases JZ s<;>cases Y0 others s<;>rfl
theorem Qow {s:ByteArray} {others:List ByteArray} (h:Zi s others=0):Y0 others s=false:=by
 unfold Zi at h;cases h1:Y0 others s with
 | false=>rfl
 | true=>rw [h1] at h;cases h2:JZ s<;>rw [h2] at h<;>cases h
theorem QCd {n m:Int} (h:n≠m):decide (n=m)=false:=decide_eq_false h
theorem Qvb (l:List ByteArray) (mark:Int) (hl:l.length < 1000) (hn:∀ s∈l,s.size<=1000):Qft mark l=some (match XT (Y1 l) l.length with | some i=>(Nh.mk mark i,Y1 l i) | none=>(Nh.mk 0 0,0)):=by
 unfold Qft;have key:loop (Qfs l mark) (0,[])=some (match XT (Y1 l) l.length with | some i=>.inl (Nh.mk mark i,Y1 l i) | none=>.inr ()):=by
  refine Qbr (step:=Qfs l mark) (fun k=>((k:Int),(l.take k).map id)) l.length (Y1 l) (fun i e=>(Nh.mk mark i,e)) () (fun k hk _=>?_) (fun _=>?_)
  ·have hs:Y1 l k=Zi l[k] (l.take k):=JY _ _ _ hk;have hi:=fun h=>Qnr l id k hk h
   simp only [List.map_id,id_eq] at hi ⊢;rw [hs];unfold Qfs;simp only [X6 hk,cond_true,Xw hk,QE];rw [show Qoo l[k]=some l[k] from rfl,QE,Qnt _ (hn _ (List.getElem_mem hk)),QE];simp only [JN,QE];rw [Qar _ (by simp),QE,Qov];by_cases h:Zi l[k] (l.take k)=0
   ·rw [if_pos h,h,hi (Qow h),XO k (by omega)];rfl
   ·rw [if_neg h,QCd h];rfl
  ·unfold Qfs;simp only [X7];rfl
 rw [key,QE];cases XT (Y1 l) l.length<;>rfl
theorem QBs (l:List Nm) (s:Nm) (hl:l.length < 1000):Qku l s=some (l.any fun o=>decide (o.Nn=s.Nn)):=by
 unfold Qku Qqe;rw [Zo l (fun o=>decide (o.Nn=s.Nn)) (fun k _=>(k:Int)),QE,Qlf,QE,Qle]
 ·intro k hk;unfold Qqd;rw [X6 hk,Xw hk,XO k (by omega)];rfl
 ·unfold Qqd;rw [X7];rfl
theorem Qxg (p:Nd) (hp:p.Nb.length < 1000) (n:Int):JK n 0 (w64 ((p.Nb.length:Int) - 1))=some (YU p n):=by
 rw [Qzn,Xz (by omega)];rfl
theorem QQp {p:Nd} (h:PlantS p) (k:Nat) (hk:k < p.Nf.length):Qjh p k=some (swX p k p.Nf[k]):=by
 have h1:=h.sw;unfold Qjh swX;rw [Xw hk,QE,Qfk (by omega),QE,QBs _ _ (by simp;omega),QE,Qxg p h.se,QE,JN,QE,JN,QE,Qar _ (by simp),QE];cases YU p p.Nf[k].Nn<;>cases (p.Nf.take k).any (fun o=>decide (o.Nn=p.Nf[k].Nn))<;>rfl
theorem QQr {p:Nd} (h:PlantS p):Qjc 3 p.Nf p=some (match XT (Zl p) p.Nf.length with | some i=>(Nh.mk 3 i,Zl p i) | none=>(Nh.mk 0 0,0)):=by
 have hl:=h.sw;unfold Qjc;have key:loop (Qfr p p.Nf 3) (0,[])=some (match XT (Zl p) p.Nf.length with | some i=>.inl (Nh.mk 3 i,Zl p i) | none=>.inr ()):=by
  refine Qbr (step:=Qfr p p.Nf 3) (fun k=>((k:Int),(p.Nf.take k).map (·.Name))) p.Nf.length (Zl p) (fun i e=>(Nh.mk 3 i,e)) () (fun k hk _=>?_) (fun _=>?_)
  ·have hs:Zl p k=swE p k p.Nf[k]:=JY _ _ _ hk;have hi:=fun h=>Qnr p.Nf (·.Name) k hk h
   rw [hs];unfold Qfr swE;simp only [X6 hk,cond_true,Xw hk,QE];rw [show Qob p.Nf[k]=some p.Nf[k].Name from rfl,QE,Qnt _ (h.wn _ (List.getElem_mem hk)),QE];simp only [JN,QE];rw [Qar _ (by simp),QE,Qov,show Qis (k:Int) p=some (swX p k p.Nf[k]) by unfold Qis;rw [QQp h k hk];rfl];by_cases h1:Zi p.Nf[k].Name ((p.Nf.take k).map (·.Name))=0
   ·simp only [h1,hi (Qow h1),if_true,decide_true,Bool.true_and,cond_true,QE,XO k (show k < 4611686018427387904 by omega)];by_cases h2:swX p k p.Nf[k]=0
    ·simp [h2]
    ·simp [h2]
   ·simp only [h1,if_false,decide_false,Bool.false_and,cond_false,QE,Bool.not_false,cond_true]
  ·unfold Qfr;simp only [X7];rfl
 rw [key,QE];cases XT (Zl p) p.Nf.length<;>rfl
theorem QNo {p:Nd} (h:PlantS p) (r:Ni) (hr:r.Nb.length < 1000):loop (Qje r p) 0=some (match XT (Z9 p r) r.Nb.length with | some i=>.inl (Z9 p r i) | none=>.inr ()) :=
 Qbr (fun k=>(k:Int)) r.Nb.length (Z9 p r) (fun _ e=>e) () (fun k hk _=>by
  have hs:Z9 p r k=rsE p r k r.Nb[k]:=JY _ _ _ hk;rw [hs];unfold Qje rsE;rw [X6 hk,cond_true,Xw hk,QE,Qfk (by omega),QE,Qxg p h.se,QE,JN,QE,Qnc _ _ (by simp;omega),QE,JN,QE,Qar _ (by simp),QE,XO k (by omega)];cases YU p r.Nb[k]<;>cases decide (r.Nb[k]∈r.Nb.take k)<;>rfl) (fun _=>by
  unfold Qje;rw [X7];rfl)
theorem QNn {p:Nd} (r:Ni) (hr:r.Nb.length < 1000) (hn:r.Nq.length < 1000) (he:r.Nq.length=p.Nf.length):loop (Qjf r p) 0=some (Yr (J0 r) (fun _ _=>(2:Int)) 0 (r.Nq.zip p.Nf)) :=
 Zo (r.Nq.zip p.Nf) _ _ (fun k hk=>by
  rw [Qmd he] at hk;unfold Qjf;rw [X6 hk,cond_true,Xw hk,QE,Xw (show k < p.Nf.length by omega),QE,Qnc _ _ (by omega),QE,XO k (by omega)];simp only [List.getElem_zip,J0];rw [show Qix r.Nq[k]=some (decide (r.Nq[k]=0)||decide (r.Nq[k]=1)) from rfl];cases decide (p.Nf[k].Nn∈r.Nb)<;>rfl) (by
  rw [Qmd he];unfold Qjf;rw [X7];rfl)
theorem QNr {p:Nd} (h:PlantS p) (k:Nat) (hk:k < p.Nc.length):Qjg p k=some (rtX p p.Nc[k]):=by
 obtain ⟨_,hr,hn⟩:=h.rn _ (List.getElem_mem hk);have h1:=h.se;have h2:=h.sw;unfold Qjg rtX;rw [Xw hk,QE,JN,QE,JN,QE,Qar _ (by simp),QE];generalize p.Nc[k]=r at hr hn ⊢;by_cases h3:r.Nb.length < 2
 ·rw [if_pos h3,decide_eq_false (show ¬ (2<=(r.Nb.length:Int)) by omega)];rfl
 rw [if_neg h3,decide_eq_true (show 2<=(r.Nb.length:Int) by omega)];by_cases h4:p.Nb.length < r.Nb.length
 ·rw [if_pos h4,decide_eq_false (show ¬ ((r.Nb.length:Int)<=p.Nb.length) by omega)];rfl
 rw [if_neg h4,decide_eq_true (show (r.Nb.length:Int)<=p.Nb.length by omega),QNo h r hr];simp only [JI,cond_true,if_true,decide_true,Bool.not_true,cond_false,QE];cases XT (Z9 p r) r.Nb.length with
 | some i=>rfl
 | none =>
  simp only [Xu];by_cases h5:r.Nq.length=p.Nf.length
  ·rw [if_pos h5,decide_eq_true (by omega),Bool.not_true,cond_false,QNn r hr hn h5,QE];rcases Jx (p:=J0 r) (res:=fun _ _=>(2:Int)) (r.Nq.zip p.Nf) 0 with ⟨k1,k2⟩ | ⟨j,x,k1,k2,k3⟩
   ·rw [k1,k2];rfl
   ·rw [k1,k3];rfl
  ·rw [if_neg h5,decide_eq_false (by omega)];rfl
theorem QOe {p:Nd} (h:PlantS p):Qjb 4 p.Nc p=some (match XT (Zj p) p.Nc.length with | some i=>(Nh.mk 4 i,Zj p i) | none=>(Nh.mk 0 0,0)):=by
 have hl:=h.ro;unfold Qjb;have key:loop (Qfq p p.Nc 4) (0,[])=some (match XT (Zj p) p.Nc.length with | some i=>.inl (Nh.mk 4 i,Zj p i) | none=>.inr ()):=by
  refine Qbr (step:=Qfq p p.Nc 4) (fun k=>((k:Int),(p.Nc.take k).map (·.Name))) p.Nc.length (Zj p) (fun i e=>(Nh.mk 4 i,e)) () (fun k hk _=>?_) (fun _=>?_)
  ·have hs:Zj p k=rtE p k p.Nc[k]:=JY _ _ _ hk;have hi:=fun h=>Qnr p.Nc (·.Name) k hk h
   rw [hs];unfold Qfq rtE;simp only [X6 hk,cond_true,Xw hk,QE];rw [show Qod p.Nc[k]=some p.Nc[k].Name from rfl,QE,Qnt _ (h.rn _ (List.getElem_mem hk)).1,QE];simp only [JN,QE];rw [Qar _ (by simp),QE,Qov,show Qit (k:Int) p=some (rtX p p.Nc[k]) by unfold Qit;rw [QNr h k hk];rfl];by_cases h1:Zi p.Nc[k].Name ((p.Nc.take k).map (·.Name))=0
   ·simp only [h1,hi (Qow h1),if_true,decide_true,Bool.true_and,cond_true,QE,XO k (show k < 4611686018427387904 by omega)];by_cases h2:rtX p p.Nc[k]=0
    ·simp [h2]
    ·simp [h2]
   ·simp only [h1,if_false,decide_false,Bool.false_and,cond_false,QE,Bool.not_false,cond_true]
  ·unfold Qfq;simp only [X7];rfl
 rw [key,QE];cases XT (Zj p) p.Nc.length<;>rfl
theorem Qso {p:Nd} (h:PlantS p):Qfp p=some (Z7 p):=by
  unfold Qfp Z7;rw [JN,QE,JN,QE,Qar _ (by simp),QE];by_cases h1:p.Nb.length=0\/p.Ng.length=0
  · rw [if_pos h1, show (decide (0 < (p.Nb.length : Int)) && decide (0 < (p.Ng.length : Int))) = false by
      rcases h1 with h1 | h1
      · rw [decide_eq_false (show ¬ (0 < (p.Nb.length:Int)) by omega)];rfl
      · rw [decide_eq_false (show ¬ (0 < (p.Ng.length:Int)) by omega),Bool.and_false]]
    rfl
  rw [if_neg h1,decide_eq_true (show 0 < (p.Nb.length:Int) by omega),decide_eq_true (show 0 < (p.Ng.length:Int) by omega)];by_cases h2:8 < p.Nb.length\/3 < p.Ng.length\/4 < p.Nf.length\/10 < p.Nc.length
  · rw [if_pos h2, show (((decide (8 < (p.Nb.length : Int)) || decide (3 < (p.Ng.length : Int))) || decide (4 < (p.Nf.length : Int))) || decide (10 < (p.Nc.length : Int))) = true by
      simp only [Bool.or_eq_true,decide_eq_true_eq];omega]
    rfl
  rw [if_neg h2, show (((decide (8 < (p.Nb.length : Int)) || decide (3 < (p.Ng.length : Int))) || decide (4 < (p.Nf.length : Int))) || decide (10 < (p.Nc.length : Int))) = false by
      rw [decide_eq_false (by omega),decide_eq_false (by omega),decide_eq_false (by omega),decide_eq_false (by omega)];rfl]
  unfold Qnz Qoa Qoc Qoe;rw [Qvb _ _ h.se h.sn,Qvb _ _ h.tr h.tn,QQr h,QOe h];have hz:∀ {f:Nat->Int} {n i:Nat},XT f n=some i->f i≠0:=fun {f n i} hf=>by
    rcases Qif f n with ⟨k1,_⟩ | ⟨j,k1,_,k3,_⟩
    · rw [k1] at hf;cases hf
    · rw [k1] at hf;cases hf;exact k3
  simp only [Bool.true_and,Bool.not_false,cond_true,JI,if_true,decide_true,Bool.not_true,cond_false,QE];cases h3:XT (Y1 p.Nb) p.Nb.length with
  | some i=>simp [hz h3]
  | none =>
    simp only [decide_true,Bool.not_true,cond_false];cases h4:XT (Y1 p.Ng) p.Ng.length with
    | some i=>simp [hz h4]
    | none =>
      simp only [decide_true,Bool.not_true,cond_false];cases h5:XT (Zl p) p.Nf.length with
      | some i=>simp [hz h5]
      | none =>
        simp only [decide_true,Bool.not_true,cond_false];cases h6:XT (Zj p) p.Nc.length with
        | some i=>simp [hz h6]
        | none=>simp
theorem Qju {p:Nd} (h:PlantS p):Qcr p=some (Z7 p).2:=by
 unfold Qcr;rw [Qso h];rfl
end Go.Gw

end
section
set_option maxRecDepth 4096
namespace Go.Gw
open Go
attribute [local irreducible] loop
def Yf (x:Nj) (s:Int):Int:=Qdy (fun t:Nr=>decide (s∈t.Nt)) x.Ng
def Qqr (x:Nj) (s:Int):Bool:=x.Ng.any fun t=>decide (s∈t.Nt)
def QGl (secs:List Int) (q:Nm×(Int×Int)):Bool:=decide (q.1.Nn∈secs)&&!decide (q.2.1=q.2.2)
def QGm (p:Nd) (sw:List Int) (r:Ni) (secs:List Int):Bool:=!((p.Nf.zip (r.Nq.zip sw)).any (QGl secs))
/-! ### Events -/
def QRp (p:Nd) (n:Int):Bool:=decide (0<=n)&&decide (n<=(p.Ng.length:Int) - 1)
def QQq (p:Nd) (n:Int):Bool:=decide (0<=n)&&decide (n<=(p.Nf.length:Int) - 1)
def QOd (p:Nd) (n:Int):Bool:=decide (0<=n)&&decide (n<=(p.Nc.length:Int) - 1)
def Qpn (n:Int):Bool:=decide (n=0)||decide (n=1)
def Qte (p:Nd) (e:Ns):Int :=
 if ¬ (0<=e.Kind/\e.Kind<=6) then 15 else if e.Kind=2 then (bif QQq p e.A then (bif Qpn e.B then 0 else 2) else 6) else
 bif QRp p e.A then (if e.Kind=0 then (bif YU p e.B then 0 else 6) else if e.Kind=1 then (bif QOd p e.B then 0 else 6) else if e.B=0 then 0 else 3) else 6
theorem QGj {n:Int} {k:Nat} (hk:k < 1000):JK n 0 (w64 ((k:Int) - 1))=some (decide (0<=n)&&decide (n<=(k:Int) - 1)):=by
 rw [Qzn,Xz (by omega)]
theorem Qxh {p:Nd} (h:PlantS p) (n:Int):Qfu p n=some (bif YU p n then 0 else 6):=by
 unfold Qfu;rw [QGj h.se,QE,JN];rfl
def Qbz (x:Nj) (e:Ns):Nr:=x.Ng[e.A.toNat]?.getD ⟨[],0⟩
def QQo (p:Nd) (e:Ns):Nm:=p.Nf[e.A.toNat]?.getD ⟨ByteArray.mk #[],0⟩
def Qgh (p:Nd) (e:Ns):Ni:=p.Nc[e.B.toNat]?.getD ⟨ByteArray.mk #[],[],[]⟩
def QPw (p:Nd) (x:Nj) (e:Ns):Int :=
 if e.Kind=2 then (bif Qqr x (QQo p e).Nn then 17 else 0) else
 if e.Kind=0 then (if (Qbz x e).Nt.length=0 then (bif Qqr x e.B then 17 else 0) else 22) else
 if (Qbz x e).Nt.length=0 then 22 else
 if e.Kind=1 then (if (Qgh p e).Nb.head?=(Qbz x e).Nt.getLast? then (bif ((Qgh p e).Nb.drop 1).any (Qqr x) then 17 else bif QGm p x.Nf (Qgh p e) (Qgh p e).Nb then 0 else 13) else 23) else
 if e.Kind=4 then (if 1 < (Qbz x e).Nw then 0 else 12) else
 if e.Kind=3\/e.Kind=5 then (if (Qbz x e).Nw < (Qbz x e).Nt.length then 0 else 12) else
 if (Qbz x e).Nt.length=1 then 0 else 17
def trX (p:Nd) (t:Nr) (e:Ns):Nr :=
 if e.Kind=0 then ⟨[e.B],1⟩ else if e.Kind=1 then ⟨t.Nt++(Qgh p e).Nb.drop 1,t.Nw⟩ else if e.Kind=3 then ⟨t.Nt,t.Nw+1⟩ else
 if e.Kind=4 then ⟨t.Nt.drop 1,t.Nw - 1⟩ else if e.Kind=5 then ⟨t.Nt.take (t.Nt.length - 1),t.Nw⟩ else ⟨[],0⟩
def QQj (p:Nd) (x:Nj) (e:Ns):Nj :=
 if e.Kind=2 then ⟨x.Nf.set e.A.toNat e.B,x.Ng,x.Nu⟩ else ⟨x.Nf,x.Ng.set e.A.toNat (trX p (Qbz x e) e),x.Nu⟩
end Go.Gw

end
section
set_option maxRecDepth 4096
namespace Go.Gw
open Go
attribute [local irreducible] loop
theorem Qnl {f:Nat->Int} {n:Nat} (h:XT f n=none):∀ j,j < n->f j=0:=by
 rcases Qif f n with ⟨_,h2⟩ | ⟨i,h1,_⟩
 ·exact h2
 ·rw [h1] at h;cases h
theorem Qdu {f:Nat->Int} {n i:Nat} (h:XT f n=some i):i < n/\f i≠0/\∀ j,j < i->f j=0:=by
 rcases Qif f n with ⟨h1,_⟩ | ⟨j,h1,h2,h3,h4⟩
 ·rw [h1] at h;cases h
 ·rw [h1] at h;cases h;exact ⟨h2,h3,h4⟩
theorem QLl {α:Type} {l:List α} (h:∀ k (hk:k < l.length),l[k]∉l.take k):l.Nodup:=by
 unfold List.Nodup;rw [List.pairwise_iff_getElem];intro i j hi hj hij e;refine h j hj ?_;rw [<-e];exact List.mem_take_iff_getElem.2 ⟨i,by omega,rfl⟩
structure PlantOk (p:Nd):Prop where
 s1:1<=p.Nb.length
 s8:p.Nb.length<=8
 t1:1<=p.Ng.length
 t3:p.Ng.length<=3
 w4:p.Nf.length<=4
 r10:p.Nc.length<=10
 ws:∀ s∈p.Nf,YU p s.Nn=true
 r2:∀ r∈p.Nc,2<=r.Nb.length
 r8:∀ r∈p.Nc,r.Nb.length<=p.Nb.length
 rs:∀ r∈p.Nc,∀ s∈r.Nb,YU p s=true
 rd:∀ r∈p.Nc,r.Nb.Nodup
 rn:∀ r∈p.Nc,r.Nq.length=p.Nf.length
 rx:∀ r∈p.Nc,(r.Nq.zip p.Nf).any (J0 r)=false
theorem Qei {p:Nd} {r:Ni} (h:rtX p r=0):2<=r.Nb.length/\r.Nb.length<=p.Nb.length/\(∀ s∈r.Nb,YU p s=true)/\r.Nb.Nodup/\r.Nq.length=p.Nf.length/\(r.Nq.zip p.Nf).any (J0 r)=false:=by
 unfold rtX at h;by_cases h1:r.Nb.length < 2
 ·rw [if_pos h1] at h;cases h
 rw [if_neg h1] at h;by_cases h2:p.Nb.length < r.Nb.length
 ·rw [if_pos h2] at h;cases h
 rw [if_neg h2] at h;cases hf:XT (Z9 p r) r.Nb.length with
 | some i=>rw [hf] at h;exact absurd h (Qdu hf).2.1
 | none =>
  rw [hf] at h;have hz:∀ k (hk:k < r.Nb.length),rsE p r k r.Nb[k]=0:=fun k hk=>by
   have:=Qnl hf k hk;rwa [show Z9 p r k=rsE p r k r.Nb[k] from JY _ _ _ hk] at this
  have hz2:∀ k (hk:k < r.Nb.length),YU p r.Nb[k]=true/\r.Nb[k]∉r.Nb.take k:=fun k hk=>by
   have:=hz k hk;unfold rsE at this;cases hb:YU p r.Nb[k] with
   | false=>rw [hb] at this;cases this
   | true =>
    rw [hb,cond_true] at this;refine ⟨rfl,fun hm=>?_⟩;rw [decide_eq_true hm] at this;cases this
  have h3:r.Nq.length=p.Nf.length/\(r.Nq.zip p.Nf).any (J0 r)=false:=by
   by_cases h5:r.Nq.length=p.Nf.length
   ·simp only [h5,if_true] at h;refine ⟨h5,?_⟩;cases hb:(r.Nq.zip p.Nf).any (J0 r) with
    | false=>rfl
    | true=>rw [hb] at h;cases h
   ·simp only [h5,if_false] at h;cases h
  refine ⟨by omega,by omega,fun s hs=>?_,QLl fun k hk=>(hz2 k hk).2,h3.1,h3.2⟩;obtain ⟨k,hk,rfl⟩:=List.getElem_of_mem hs;exact (hz2 k hk).1
theorem QMk {p:Nd} (h:(Z7 p).2=0):PlantOk p:=by
 unfold Z7 at h;by_cases h1:p.Nb.length=0\/p.Ng.length=0
 ·rw [if_pos h1] at h;cases h
 rw [if_neg h1] at h;by_cases h2:8 < p.Nb.length\/3 < p.Ng.length\/4 < p.Nf.length\/10 < p.Nc.length
 ·rw [if_pos h2] at h;cases h
 rw [if_neg h2] at h;cases h3:XT (Y1 p.Nb) p.Nb.length with
 | some i=>rw [h3] at h;exact absurd h (Qdu h3).2.1
 | none =>
  rw [h3] at h;cases h4:XT (Y1 p.Ng) p.Ng.length with
  | some i=>rw [h4] at h;exact absurd h (Qdu h4).2.1
  | none =>
   rw [h4] at h;cases h5:XT (Zl p) p.Nf.length with
   | some i=>rw [h5] at h;exact absurd h (Qdu h5).2.1
   | none =>
    rw [h5] at h;cases h6:XT (Zj p) p.Nc.length with
    | some i=>rw [h6] at h;exact absurd h (Qdu h6).2.1
    | none =>
     have hr:∀ r∈p.Nc,rtX p r=0:=fun r hr=>by
      obtain ⟨k,hk,rfl⟩:=List.getElem_of_mem hr;have:=Qnl h6 k hk;rw [show Zj p k=rtE p k p.Nc[k] from JY _ _ _ hk] at this;unfold rtE at this;by_cases hn:Zi p.Nc[k].Name ((p.Nc.take k).map (·.Name))=0
      ·rwa [if_pos hn] at this
      ·rw [if_neg hn] at this;exact absurd this hn
     refine ⟨by omega,by omega,by omega,by omega,by omega,by omega,fun s hs=>?_,fun r h=>(Qei (hr r h)).1,fun r h=>(Qei (hr r h)).2.1,fun r h=>(Qei (hr r h)).2.2.1,fun r h=>(Qei (hr r h)).2.2.2.1,fun r h=>(Qei (hr r h)).2.2.2.2.1,fun r h=>(Qei (hr r h)).2.2.2.2.2⟩;obtain ⟨k,hk,rfl⟩:=List.getElem_of_mem hs;have:=Qnl h5 k hk;rw [show Zl p k=swE p k p.Nf[k] from JY _ _ _ hk] at this;unfold swE at this;by_cases hn:Zi p.Nf[k].Name ((p.Nf.take k).map (·.Name))=0
     ·rw [if_pos hn] at this;unfold swX at this;cases hb:YU p p.Nf[k].Nn with
      | true=>rfl
      | false=>rw [hb] at this;cases this
     ·rw [if_neg hn] at this;exact absurd this hn
end Go.Gw

end
section
set_option maxRecDepth 4096
namespace Go.Gw
open Go
attribute [local irreducible] loop
end Go.Gw

end
section
set_option maxRecDepth 4096
namespace Go.Gw
open Go
attribute [local irreducible] loop
end Go.Gw

end
section
set_option maxRecDepth 4096
namespace Go.Gw
open Go
attribute [local irreducible] loop
/-! ### The beginning, copies -/
end Go.Gw

end
section
set_option maxRecDepth 4096
namespace Go.Gw
open Go
attribute [local irreducible] loop
def evE (p:Nd) (x:Nj) (e:Ns):Int:=if Qte p e=0 then QPw p x e else Qte p e
def evs (p:Nd):Nj->Nat->List Ns->Nj⊕(Nat×Int)
 | x,_,[]=>.inl x
 | x,k,e::l=>if evE p x e=0 then evs p (QQj p x e) (k+1) l else .inr (k,evE p x e)
end Go.Gw

end
section
set_option maxRecDepth 4096
namespace Go.Gw
open Go
attribute [local irreducible] loop
end Go.Gw

end
section
set_option maxRecDepth 4096
namespace Go.Gw
open Go
attribute [local irreducible] loop
end Go.Gw

end
section
set_option maxRecDepth 4096
namespace Go.Gw
open Go
attribute [local irreducible] loop
end Go.Gw

end
section
set_option maxRecDepth 4096
namespace Go.Gw
open Go
attribute [local irreducible] loop
theorem Qnp (l:List Int) (v:Int) (hl:l.length < 1000000):Qdm l v=some (decide (v∈l)):=by
 unfold Qdm;rw [Zo l (fun x=>decide (x=v)) (fun _ _=>true),QE]
 ·rcases Jx (p:=fun x=>decide (x=v)) (res:=fun _ _=>true) l 0 with ⟨k1,k2⟩ | ⟨j,x,k1,k2,k3⟩
  ·rw [k1,<-Qsa,k2];rfl
  ·rw [k1,<-Qsa,k3];rfl
 ·intro k hk;unfold Qmr;rw [X6 hk,Xw hk,XO k (by omega)];rfl
 ·unfold Qmr;rw [X7];rfl
theorem QLp (l:List ByteArray) (s:ByteArray) (hl:l.length < 1000000):Qkd l s=some (Qdy (fun x=>decide (x=s)) l):=by
 unfold Qkd Qdy;rw [Zo l (fun x=>decide (x=s)) (fun k _=>(k:Int)),QE,Qlf]
 ·intro k hk;unfold Qps;rw [X6 hk,Xw hk,XO k (by omega)];rfl
 ·unfold Qps;rw [X7];rfl
theorem Quy (l:List ByteArray) (s:ByteArray):(l.any fun x=>decide (x=s))=Y0 l s:=by
 unfold Y0;congr 1;funext x;exact decide_eq_decide.2 eq_comm
theorem Quz {α:Type} (f:α->ByteArray) (l:List α) (s:ByteArray):(l.any fun x=>decide (f x=s))=Y0 (l.map f) s:=by
 rw [<-Quy,List.any_map];rfl
theorem Qwk (l:List ByteArray) (hl:l.length < 1000):Qgf l=some (match XT (Y1 l) l.length with | some i=>((i:Int),Y1 l i) | none=>(0,0)):=by
 unfold Qgf;have key:loop (Qge l) 0=_:=Qbr (step:=Qge l) (fun k=>(k:Int)) l.length (Y1 l) (fun i e=>((i:Int),e)) () (fun k hk _=>by
  have hs:Y1 l k=Zi l[k] (l.take k):=JY _ _ _ hk;rw [hs];unfold Qge Zi;rw [X6 hk,cond_true,Xw hk,QE,Qmp,QE];cases JZ l[k]
  ·rfl
  ·simp only [Bool.not_true,cond_false,QE,cond_true];rw [Qfk (by omega),QE,QLp _ _ (by simp;omega),QE,Qtv,Quy,XO k (by omega)];cases Y0 (l.take k) l[k]<;>rfl) (fun _=>by
  unfold Qge;rw [X7];rfl)
 rw [key,QE];cases XT (Y1 l) l.length<;>rfl
theorem Qqn {α ρ:Type} {step:Int->Option (Int⊕(ρ⊕Unit))} (xs:List α) (n:Nat) (hn:n<=xs.length) (p:α->Bool) (c:ρ)
  (hs:∀ k (hk:k < xs.length),k < n->step (k:Int)=(bif p xs[k] then some (.inr (.inl c)) else some (.inl ((k+1:Nat):Int))))
  (he:step (n:Int)=some (.inr (.inr ()))):loop step 0=some (if (xs.take n).any p=true then .inl c else .inr ()):=by
 have hlen:(xs.take n).length=n:=by simp;omega
 rw [Zo (xs.take n) p (fun _ _=>c) (fun k hk=>by
  rw [hlen] at hk;rw [hs k (by omega) hk];simp only [List.getElem_take]) (by rw [hlen];exact he)]
 rcases Jx (p:=p) (res:=fun _ _=>c) (xs.take n) 0 with ⟨k1,k2⟩ | ⟨j,x,k1,k2,k3⟩
 ·rw [k1,k2];rfl
 ·rw [k1,k3];rfl
theorem QNb {p:Nd} (h:PlantS p) (k:Nat) (hk:k < p.Nf.length):Qkk p k=some (Zl p k):=by
 have h1:=h.sw;have h2:=h.se;have hs:Zl p k=swE p k p.Nf[k]:=JY _ _ _ hk;have l0:loop (Qki p.Nf[k] (k:Int) p) 0=some (if (p.Nf.take k).any (fun o=>decide (o.Name=p.Nf[k].Name))=true then .inl 5 else .inr ()) :=
  Qqn p.Nf k (by omega) _ _ (fun j hj hjk=>by
   unfold Qki;rw [X6 hjk,cond_true,Xw hj,QE,XO j (by omega)]) (by
   unfold Qki;rw [X7];rfl)
 have l1:loop (Qkj p.Nf[k] (k:Int) p) 0=some (if (p.Nf.take k).any (fun o=>decide (o.Nn=p.Nf[k].Nn))=true then .inl 26 else .inr ()) :=
  Qqn p.Nf k (by omega) _ _ (fun j hj hjk=>by
   unfold Qkj;rw [X6 hjk,cond_true,Xw hj,QE,XO j (by omega)]) (by
   unfold Qkj;rw [X7];rfl)
 rw [hs];unfold Qkk swE swX Zi;rw [Xw hk,QE,Qmp,QE,l0,l1,Quz (fun o:Nm=>o.Name),show Qao p.Nf[k].Nn 0 (w64 ((p.Nb.length:Int) - 1))=some (YU p p.Nf[k].Nn) by rw [Qhy,Xz (by omega)];rfl];cases JZ p.Nf[k].Name
 ·rfl
 ·cases Y0 ((p.Nf.take k).map (·.Name)) p.Nf[k].Name
  ·cases YU p p.Nf[k].Nn
   ·rfl
   ·cases (p.Nf.take k).any (fun o=>decide (o.Nn=p.Nf[k].Nn))<;>rfl
  ·rfl
theorem QMl (n:Int):Qao n 0 1=some (Qpn n):=by
 rw [Qhy];congr 1;unfold Qpn;rw [Bool.eq_iff_iff];simp only [Bool.and_eq_true,Bool.or_eq_true,decide_eq_true_eq];omega
theorem QMz {p:Nd} (h:PlantS p) (k:Nat) (hk:k < p.Nc.length):Qkh p k=some (Zj p k):=by
 have h1:=h.ro;have h2:=h.se;have h3:=h.sw;obtain ⟨_,hr,hn⟩:=h.rn _ (List.getElem_mem hk);have hs:Zj p k=rtE p k p.Nc[k]:=JY _ _ _ hk;have l0:loop (Qke p.Nc[k] p (k:Int)) 0=some (if (p.Nc.take k).any (fun o=>decide (o.Name=p.Nc[k].Name))=true then .inl 5 else .inr ()) :=
  Qqn p.Nc k (by omega) _ _ (fun j hj hjk=>by
   unfold Qke;rw [X6 hjk,cond_true,Xw hj,QE,XO j (by omega)]) (by
   unfold Qke;rw [X7];rfl)
 rw [hs];unfold Qkh rtE;rw [Xw hk,QE,Qmp,QE,l0,Quz (fun o:Ni=>o.Name)];generalize p.Nc[k]=r at hr hn ⊢;have l1:loop (Qkf r p) 0=some (match XT (Z9 p r) r.Nb.length with | some i=>.inl (Z9 p r i) | none=>.inr ()) :=
  Qbr (fun k=>(k:Int)) r.Nb.length (Z9 p r) (fun _ e=>e) () (fun k hk _=>by
   have hs:Z9 p r k=rsE p r k r.Nb[k]:=JY _ _ _ hk;rw [hs];unfold Qkf rsE;rw [X6 hk,cond_true,Xw hk,QE,show Qao r.Nb[k] 0 (w64 ((p.Nb.length:Int) - 1))=some (YU p r.Nb[k]) by rw [Qhy,Xz (by omega)];rfl,QE,Qfk (by omega),QE,QE,Qnp _ _ (by simp;omega),QE,XO k (by omega)];cases YU p r.Nb[k]<;>cases decide (r.Nb[k]∈r.Nb.take k)<;>rfl) (fun _=>by
   unfold Qkf;rw [X7];rfl)
 have l2:r.Nq.length=p.Nf.length->loop (Qkg r p) 0=some (Yr (J0 r) (fun _ _=>(2:Int)) 0 (r.Nq.zip p.Nf)):=fun he =>
  Zo (r.Nq.zip p.Nf) _ _ (fun k hk=>by
   rw [Qmd he] at hk;unfold Qkg;rw [X6 hk,cond_true,Xw (show k < p.Nf.length by omega),QE,Qnp _ _ (by omega),QE,Xw hk,XO k (by omega)];simp only [List.getElem_zip,J0,QE,QMl];cases decide (p.Nf[k].Nn∈r.Nb)<;>rfl) (by
   rw [Qmd he];unfold Qkg;rw [X7];rfl)
 unfold Zi;cases JZ r.Name
 ·rfl
 ·cases Y0 ((p.Nc.take k).map (·.Name)) r.Name
  ·simp only [Bool.not_true,cond_false,cond_true,QE,Xu,if_true,Bool.false_eq_true,if_false];unfold rtX;by_cases h4:r.Nb.length < 2
   ·rw [if_pos h4,decide_eq_true (show (r.Nb.length:Int) < 2 by omega)];rfl
   rw [if_neg h4,decide_eq_false (show ¬ (r.Nb.length:Int) < 2 by omega)];by_cases h5:p.Nb.length < r.Nb.length
   ·rw [if_pos h5,decide_eq_true (show (p.Nb.length:Int) < r.Nb.length by omega)];rfl
   rw [if_neg h5,decide_eq_false (show ¬ (p.Nb.length:Int) < r.Nb.length by omega),l1];simp only [cond_false,QE];cases XT (Z9 p r) r.Nb.length with
   | some i=>rfl
   | none =>
    simp only [Xu];by_cases h6:r.Nq.length=p.Nf.length
    ·rw [if_pos h6,decide_eq_true (show (r.Nq.length:Int)=p.Nf.length by omega),Bool.not_true,cond_false,l2 h6,QE];rcases Jx (p:=J0 r) (res:=fun _ _=>(2:Int)) (r.Nq.zip p.Nf) 0 with ⟨k1,k2⟩ | ⟨j,x,k1,k2,k3⟩
     ·rw [k1,k2];rfl
     ·rw [k1,k3];rfl
    ·rw [if_neg h6,decide_eq_false (show ¬ (r.Nq.length:Int)=p.Nf.length by omega)];rfl
  ·rfl
theorem QMu {p:Nd} (h:PlantS p):Qjy p=some (Z7 p):=by
  have h3:=h.sw;have h4:=h.ro;have l0:loop (Qjw p) 0=some (match XT (Zl p) p.Nf.length with | some i=>.inl (Nh.mk 3 i,Zl p i) | none=>.inr ()) :=
    Qbr (fun k=>(k:Int)) p.Nf.length (Zl p) (fun i e=>(Nh.mk 3 i,e)) () (fun k hk _=>by
      unfold Qjw;rw [X6 hk,cond_true,QNb h k hk,QE,XO k (by omega)];by_cases h1:Zl p k=0
      · rw [if_pos h1,decide_eq_true h1];rfl
      · rw [if_neg h1,decide_eq_false h1];rfl) (fun _=>by
      unfold Qjw;rw [X7];rfl)
  have l1:loop (Qjx p) 0=some (match XT (Zj p) p.Nc.length with | some i=>.inl (Nh.mk 4 i,Zj p i) | none=>.inr ()) :=
    Qbr (fun k=>(k:Int)) p.Nc.length (Zj p) (fun i e=>(Nh.mk 4 i,e)) () (fun k hk _=>by
      unfold Qjx;rw [X6 hk,cond_true,QMz h k hk,QE,XO k (by omega)];by_cases h1:Zj p k=0
      · rw [if_pos h1,decide_eq_true h1];rfl
      · rw [if_neg h1,decide_eq_false h1];rfl) (fun _=>by
      unfold Qjx;rw [X7];rfl)
  unfold Qjy Z7;by_cases h1:p.Nb.length=0\/p.Ng.length=0
  · rw [if_pos h1, show (decide ((p.Nb.length : Int) = 0) || decide ((p.Ng.length : Int) = 0)) = true by
      simp only [Bool.or_eq_true,decide_eq_true_eq];omega]
    rfl
  rw [if_neg h1,decide_eq_false (show ¬ (p.Nb.length:Int)=0 by omega),decide_eq_false (show ¬ (p.Ng.length:Int)=0 by omega)];simp only [Bool.or_self,cond_false];by_cases h2:8 < p.Nb.length\/3 < p.Ng.length\/4 < p.Nf.length\/10 < p.Nc.length
  · rw [if_pos h2, show (((decide (8 < (p.Nb.length : Int)) || decide (3 < (p.Ng.length : Int))) || decide (4 < (p.Nf.length : Int))) || decide (10 < (p.Nc.length : Int))) = true by
      simp only [Bool.or_eq_true,decide_eq_true_eq];omega]
    rfl
  rw [if_neg h2, show (((decide (8 < (p.Nb.length : Int)) || decide (3 < (p.Ng.length : Int))) || decide (4 < (p.Nf.length : Int))) || decide (10 < (p.Nc.length : Int))) = false by
      rw [decide_eq_false (by omega),decide_eq_false (by omega),decide_eq_false (by omega),decide_eq_false (by omega)];rfl]
  rw [cond_false,Qwk _ h.se,Qwk _ h.tr,l0,l1];have hz:∀ {f:Nat->Int} {n i:Nat},XT f n=some i->f i≠0:=fun hf=>(Qdu hf).2.1
  cases h3:XT (Y1 p.Nb) p.Nb.length with
  | some i=>simp [hz h3]
  | none =>
    simp only [QE,decide_true,Bool.not_true,cond_false];cases h4:XT (Y1 p.Ng) p.Ng.length with
    | some i=>simp [hz h4]
    | none =>
      simp only [decide_true,Bool.not_true,cond_false];cases h5:XT (Zl p) p.Nf.length with
      | some i=>rfl
      | none =>
        simp only [Xu];cases h6:XT (Zj p) p.Nc.length with
        | some i=>rfl
        | none=>rfl
/-! ### Copies -/
theorem Qss (l:List Int) (h:l.length < 1000000):Qfd l=some l:=by
 unfold Qfd;rw [Qbh (by simp;omega)];rfl
theorem Qst (l:List ByteArray) (h:l.length < 1000000):Qfe l=some l:=by
 unfold Qfe;rw [Qbh (by simp;omega)];rfl
theorem QQv {α:Type} (l:List α) (k:Nat) (hk:k < l.length):l.take k++[l[k]]=l.take (k+1):=by
 have:=Qyn l id k hk;simp
theorem QCc {p:Nd} (h:PlantS p):Qeh p=some p:=by
 have h1:=h.se;have h2:=h.tr;have h3:=h.sw;have h4:=h.ro;have hl:=Qor (step:=Qgd p) (o:=p.Nc) (fun k=>((k:Int),p.Nc.take k)) p.Nc.length (fun k hk=>by
  obtain ⟨_,hr,hn⟩:=h.rn _ (List.getElem_mem hk);unfold Qgd;simp only [X6 hk,cond_true,Xw hk,QE];rw [Qss _ (by omega),QE,Qss _ (by omega),QE,Qbh (by simp;omega),QE,XO k (by omega),QQv _ _ hk]) (by
  unfold Qgd;simp only [X7,List.take_length];rfl)
 have hl2:loop (Qgd p) (0,([]:List Ni))=some p.Nc:=hl;unfold Qeh;rw [Qst _ (by omega),QE,Qst _ (by omega),QE,Qbh (by simp;omega),QE,QE];simp only [List.nil_append];rw [hl2];rfl
/-! ### Equal ones -/
theorem QFt (a b:List Int) (ha:a.length < 1000000):Qhs a b=some (decide (a=b)):=by
 unfold Qhs;by_cases hl:a.length=b.length
 ·rw [decide_eq_true (by omega),Bool.not_true,cond_false,Zo (a.zip b) (fun x=>!decide (x.1=x.2)) (fun _ _=>false),QE,Qtd a b hl]
  ·intro k hk;rw [Qzz hl] at hk;unfold Qms;rw [X6 hk,cond_true,Xw hk,QE,Xw (show k < b.length by omega),QE,XO k (by omega)];simp only [List.getElem_zip]
  ·rw [Qzz hl];unfold Qms;rw [X7];rfl
 ·rw [decide_eq_false (by omega)];simp only [Bool.not_false,cond_true];rw [decide_eq_false];intro e;exact hl (by rw [e])
/-! ### The limits -/
theorem QEw (p:Nd):Qfo p=some true/\PlantS p/\(p.Nb.length<=4\/8 < p.Nb.length)\/Qfo p=some false:=by
 unfold Qfo;cases hb:(((((decide (4 < (p.Nb.length:Int))&&decide ((p.Nb.length:Int)<=8))||decide (10 < (p.Nb.length:Int)))||decide (5 < (p.Ng.length:Int)))||decide (6 < (p.Nf.length:Int)))||decide (12 < (p.Nc.length:Int))) with
 | true=>exact .inr rfl
 | false =>
  rw [cond_false];simp only [Bool.or_eq_false_iff,Bool.and_eq_false_iff,decide_eq_false_iff_not] at hb;have h1:p.Nb.length < 1000:=by omega
  have h2:p.Ng.length < 1000:=by omega
  have h3:p.Nf.length < 1000:=by omega
  have h4:p.Nc.length < 1000:=by omega
  have l0:loop (Qin p) 0=some (Yr (fun s:ByteArray=>decide (20 < (s.size:Int))) (fun _ _=>false) 0 p.Nb):=Zo p.Nb _ _ (fun k hk=>by
   unfold Qin;rw [X6 hk,cond_true,Xw hk,QE,XO k (by omega)]) (by unfold Qin;rw [X7];rfl)
  have l1:loop (Qio p) 0=some (Yr (fun s:ByteArray=>decide (20 < (s.size:Int))) (fun _ _=>false) 0 p.Ng):=Zo p.Ng _ _ (fun k hk=>by
   unfold Qio;rw [X6 hk,cond_true,Xw hk,QE,XO k (by omega)]) (by unfold Qio;rw [X7];rfl)
  have l2:loop (Qip p) 0=some (Yr (fun s:Nm=>decide (20 < (s.Name.size:Int))) (fun _ _=>false) 0 p.Nf):=Zo p.Nf _ _ (fun k hk=>by
   unfold Qip;rw [X6 hk,cond_true,Xw hk,QE,XO k (by omega)]) (by unfold Qip;rw [X7];rfl)
  have l3:loop (Qiq p) 0=some (Yr (fun r:Ni=>decide (20 < (r.Name.size:Int))||(decide (10 < (r.Nb.length:Int))||decide (6 < (r.Nq.length:Int)))) (fun _ _=>false) 0 p.Nc):=Zo p.Nc _ _ (fun k hk=>by
   unfold Qiq;simp only [X6 hk,cond_true,Xw hk,QE,XO k (show k < 4611686018427387904 by omega)];cases decide (20 < (p.Nc[k].Name.size:Int))<;>cases decide (10 < (p.Nc[k].Nb.length:Int))<;>cases decide (6 < (p.Nc[k].Nq.length:Int))<;>rfl) (by unfold Qiq;rw [X7];rfl)
  rw [l0,l1,l2,l3];simp only [QE];rcases Jx (p:=fun s:ByteArray=>decide (20 < (s.size:Int))) (res:=fun _ _=>false) p.Nb 0 with ⟨k1,k2⟩ | ⟨j,x,k1,k2,k3⟩
  ·rw [k1];rcases Jx (p:=fun s:ByteArray=>decide (20 < (s.size:Int))) (res:=fun _ _=>false) p.Ng 0 with ⟨m1,m2⟩ | ⟨j,x,m1,m2,m3⟩
   ·rw [m1];rcases Jx (p:=fun s:Nm=>decide (20 < (s.Name.size:Int))) (res:=fun _ _=>false) p.Nf 0 with ⟨n1,n2⟩ | ⟨j,x,n1,n2,n3⟩
    ·rw [n1];rcases Jx (p:=fun r:Ni=>decide (20 < (r.Name.size:Int))||(decide (10 < (r.Nb.length:Int))||decide (6 < (r.Nq.length:Int)))) (res:=fun _ _=>false) p.Nc 0 with ⟨o1,o2⟩ | ⟨j,x,o1,o2,o3⟩
     ·rw [o1];rw [List.any_eq_false] at k2 m2 n2 o2;refine .inl ⟨rfl,⟨h1,h2,h3,h4,fun s hs=>?_,fun s hs=>?_,fun s hs=>?_,fun r hr=>?_⟩,by omega⟩
      ·have:=k2 s hs;simp at this;omega
      ·have:=m2 s hs;simp at this;omega
      ·have:=n2 s hs;simp at this;omega
      ·have:=o2 r hr;simp at this;omega
     ·rw [o1];exact .inr rfl
    ·rw [n1];exact .inr rfl
   ·rw [m1];exact .inr rfl
  ·rw [k1];exact .inr rfl
end Go.Gw

end
section
set_option maxRecDepth 4096
namespace Go.Gw
open Go
attribute [local irreducible] loop
theorem QNa {p:Nd} (h:PlantS p) (n:Int):Qkc p n=some (bif YU p n then 0 else 6):=by
 have:=h.se;unfold Qkc;rw [Qhy,Xz (by omega),QE];show (bif !(YU p n) then _ else _)=_;cases YU p n<;>rfl
/-! ### Which section leads to which -/
end Go.Gw

end
section
set_option maxRecDepth 4096
namespace Go.Gw
open Go
attribute [local irreducible] loop
theorem Qto {α:Type} {xs:List α} (h:0 < xs.length):idx xs 0=some xs[0]:=Xw (k:=0) h
def Qae {α β:Type} (p:α->Bool) (g:Nat->α->β):Nat->List α->List β
 | _,[]=>[]
 | k,x::l=>if p x=true then g k x::Qae p g (k+1) l else Qae p g (k+1) l
theorem Quu {α β σ ρ:Type} {step:σ->Option (σ⊕ρ)} (l:List α) (p:α->Bool) (g:Nat->α->β) (S:List β->Nat->σ) (o:List β->ρ)
  (hs:∀ k (hk:k < l.length) acc,acc.length<=k->step (S acc k)=some (.inl (S (if p l[k]=true then acc++[g k l[k]] else acc) (k+1)))) (he:∀ acc,step (S acc l.length)=some (.inr (o acc))):loop step (S [] 0)=some (o (Qae p g 0 l)):=by
 have key:∀ j k acc,acc.length<=k->j+k=l.length->loop step (S acc k)=some (o (acc++Qae p g k (l.drop k))):=by
  intro j
  induction j with
  | zero =>
   grind [Qfv,Qae,List.drop_length]
  | succ j ih =>
   intro k acc ha hk;have hlt:k < l.length:=by omega
   rw [List.drop_eq_getElem_cons hlt,Qji (hs k hlt acc ha)];by_cases hp:p l[k]=true
   ·rw [if_pos hp,ih (k+1) _ (by simp;omega) (by omega)];simp [Qae,hp]
   ·rw [if_neg hp,ih (k+1) _ (by omega) (by omega)];simp [Qae,hp]
 simp_all
end Go.Gw

end
section
set_option maxRecDepth 4096
namespace Go.Gw
open Go
attribute [local irreducible] loop
end Go.Gw

end
section
set_option maxRecDepth 4096
namespace Go.Gw
open Go
attribute [local irreducible] loop
end Go.Gw

end
section
set_option linter.unusedVariables false
namespace Go.Gw
structure Seg {α:Type} (a b:Nat) (xs ys:List α):Prop where
 len:ys.length=xs.length
 out:∀ k,(k < a\/b<=k)->ys[k]?=xs[k]?
 into:∀ k y,a<=k->k < b->ys[k]?=some y->∃ k',a<=k'/\k' < b/\xs[k']?=some y
 perm:ys.Perm xs
theorem Seg.refl {α:Type} {a b:Nat} {xs:List α}:Seg a b xs xs:=⟨rfl,fun _ _=>rfl,fun k _ h1 h2 h=>⟨k,h1,h2,h⟩,.refl _⟩
theorem Seg.trans {α:Type} {a b:Nat} {xs ys zs:List α} (h:Seg a b xs ys) (k:Seg a b ys zs):Seg a b xs zs :=
 ⟨k.len.trans h.len,fun i hi=>(k.out i hi).trans (h.out i hi),fun i y h1 h2 h3=>by
  obtain ⟨i',h4,h5,h6⟩:=k.into i y h1 h2 h3;exact h.into i' y h4 h5 h6,k.perm.trans h.perm⟩
theorem Seg.mono {α:Type} {a b a' b':Nat} {xs ys:List α} (h:Seg a b xs ys) (ha:a'<=a) (hb:b<=b'):Seg a' b' xs ys :=
 ⟨h.len,fun i hi=>h.out i (by omega),fun i y h1 h2 h3=>by
  by_cases h4:a<=i/\i < b
  ·obtain ⟨i',h5,h6,h7⟩:=h.into i y h4.1 h4.2 h3;exact ⟨i',by omega,by omega,h7⟩
  ·rw [h.out i (by omega)] at h3;exact ⟨i,h1,h2,h3⟩,h.perm⟩
theorem swap_perm {α:Type} {xs:List α} {i j:Nat} {x y:α} (hi:xs[i]?=some x) (hj:xs[j]?=some y):((xs.set i y).set j x).Perm xs:=by
 obtain ⟨h1,e1⟩:=List.getElem?_eq_some_iff.1 hi;obtain ⟨h2,e2⟩:=List.getElem?_eq_some_iff.1 hj;have:=(Array.swap_perm (xs:=xs.toArray) (i:=i) (j:=j) (by simpa using h1) (by simpa using h2)).toList;simp [Array.swap] at this;rw [e1,e2] at this;exact this
theorem Zx {α:Type} {xs:List α} {i j:Nat} {x y:α} (hi:xs[i]?=some x) (hj:xs[j]?=some y) (k:Nat):((xs.set i y).set j x)[k]?=if k=j then some x else if k=i then some y else xs[k]?:=by
 obtain ⟨h1,e1⟩:=List.getElem?_eq_some_iff.1 hi;obtain ⟨h2,e2⟩:=List.getElem?_eq_some_iff.1 hj;rw [List.getElem?_set];by_cases h:j=k
 ·subst h;simp [h2]
 ·rw [if_neg h,if_neg (fun e=>h e.symm),List.getElem?_set];by_cases h':i=k
  ·subst h';simp [h1]
  ·rw [if_neg h',if_neg (fun e=>h' e.symm)]
theorem Seg.swap {α:Type} {a b:Nat} {xs:List α} {i j:Nat} {x y:α} (hi:xs[i]?=some x) (hj:xs[j]?=some y) (h1:a<=i) (h2:i < b) (h3:a<=j) (h4:j < b):Seg a b xs ((xs.set i y).set j x):=by
 refine ⟨by simp,fun k hk=>?_,fun k z h5 h6 h7=>?_,swap_perm hi hj⟩
 ·rw [Zx hi hj,if_neg (by omega),if_neg (by omega)]
 ·rw [Zx hi hj] at h7;by_cases e:k=j
  ·rw [if_pos e] at h7;cases h7;exact ⟨i,h1,h2,hi⟩
  ·rw [if_neg e] at h7;by_cases e':k=i
   ·rw [if_pos e'] at h7;cases h7;exact ⟨j,h3,h4,hj⟩
   ·rw [if_neg e'] at h7;exact ⟨k,h5,h6,h7⟩
theorem Seg.get {α:Type} {a b:Nat} {xs ys:List α} (h:Seg a b xs ys) {k:Nat} (hk:k < xs.length):∃ y,ys[k]?=some y:=⟨_,List.getElem?_eq_getElem (by rw [h.len];exact hk)⟩
theorem Seg.all {α:Type} {a b:Nat} {xs ys:List α} (h:Seg a b xs ys) {p:α->Prop} (hp:∀ k y,a<=k->k < b->xs[k]?=some y->p y):∀ k y,a<=k->k < b->ys[k]?=some y->p y:=fun k y h1 h2 h3=>by
 obtain ⟨k',h4,h5,h6⟩:=h.into k y h1 h2 h3;exact hp k' y h4 h5 h6
structure STO {α:Type} (lt:α->α->Bool):Prop where
 irr:∀ x,lt x x=false
 tr:∀ x y z,lt x y=true->lt y z=true->lt x z=true
 tot:∀ x y,lt x y=false->lt y x=false->x=y
section
variable {α:Type} {lt:α->α->Bool} (O:STO lt)
include O
theorem STO.asym {x y:α} (h:lt x y=true):lt y x=false:=by
 cases h':lt y x with
 | false=>rfl
 | true=>have:=O.tr x y x h h';rw [O.irr] at this;cases this
theorem STO.le_tr {x y z:α} (h:lt y x=false) (k:lt z y=false):lt z x=false:=by
 cases h':lt z x with
 | false=>rfl
 | true =>
  cases h1:lt x y with
  | true=>rw [O.tr z x y h' h1] at k;cases k
  | false=>have e:=O.tot x y h1 h;subst e;rw [h'] at k;cases k
end
def Heap {α:Type} (lt:α->α->Bool) (xs:List α) (a lo hi:Nat):Prop:=∀ r c x y,lo<=r->(c=2 * r+1\/c=2 * r+2)->c < hi->xs[a+r]?=some x->xs[a+c]?=some y->lt x y=false
structure HeapBut {α:Type} (lt:α->α->Bool) (xs:List α) (a lo hi m:Nat):Prop where
 rest:∀ r c x y,lo<=r->r≠m->(c=2 * r+1\/c=2 * r+2)->c < hi->xs[a+r]?=some x->xs[a+c]?=some y->lt x y=false
 over:∀ r c x y,lo<=r->(m=2 * r+1\/m=2 * r+2)->(c=2 * m+1\/c=2 * m+2)->c < hi->xs[a+r]?=some x->xs[a+c]?=some y->lt x y=false
section
variable {α:Type} {lt:α->α->Bool} {xs:List α} {a lo hi m:Nat}
theorem Heap.but (h:Heap lt xs a (lo+1) hi):HeapBut lt xs a lo hi lo :=
 ⟨fun r c x y h1 h2 h3 h4 h5 h6=>h r c x y (by omega) h3 h4 h5 h6,fun r c x y h1 h2 h3 h4 h5 h6=>by omega⟩
theorem HeapBut.leaf (h:HeapBut lt xs a lo hi m) (hm:hi<=2 * m+1):Heap lt xs a lo hi:=fun r c x y h1 h2 h3 h4 h5=>by
 by_cases e:r=m
 ·omega
 ·exact h.rest r c x y h1 e h2 h3 h4 h5
theorem HeapBut.done (O:STO lt) (h:HeapBut lt xs a lo hi m) {x z:α} (hx:xs[a+m]?=some x) (hxz:lt x z=false) (hk:∀ c y,(c=2 * m+1\/c=2 * m+2)->c < hi->xs[a+c]?=some y->lt z y=false):Heap lt xs a lo hi:=fun r c x' y h1 h2 h3 h4 h5=>by
 by_cases e:r=m
 ·subst e;rw [hx] at h4;cases h4;exact O.le_tr (hk c y h2 h3 h5) hxz
 ·exact h.rest r c x' y h1 e h2 h3 h4 h5
theorem HeapBut.down (O:STO lt) (h:HeapBut lt xs a lo hi m) (hm:lo<=m) {k:Nat} (hkm:k=2 * m+1\/k=2 * m+2) (hkh:k < hi) {x z:α} (hx:xs[a+m]?=some x) (hz:xs[a+k]?=some z) (hxz:lt x z=true) (hk:∀ c y,(c=2 * m+1\/c=2 * m+2)->c < hi->xs[a+c]?=some y->lt z y=false) :
  HeapBut lt ((xs.set (a+m) z).set (a+k) x) a lo hi k:=by
 refine ⟨fun r c u y h1 h2 h3 h4 h5 h6=>?_,fun r c u y h1 h2 h3 h4 h5 h6=>?_⟩
 ·rw [Zx hx hz] at h5 h6;rw [if_neg (by omega)] at h5;by_cases e:r=m
  ·subst e;rw [if_pos rfl] at h5;cases h5;by_cases e2:c=k
   ·subst e2;rw [if_pos rfl] at h6;cases h6;exact O.asym hxz
   ·rw [if_neg (by omega),if_neg (by omega)] at h6;exact hk c y h3 h4 h6
  ·rw [if_neg (by omega)] at h5;by_cases e2:c=k
   ·omega
   rw [if_neg (by omega)] at h6;by_cases e3:c=m
   ·subst e3;rw [if_pos rfl] at h6;cases h6;exact h.over r k u z h1 h3 hkm hkh h5 hz
   ·rw [if_neg (by omega)] at h6;exact h.rest r c u y h1 e h3 h4 h5 h6
 ·have er:r=m:=by omega
  subst er;rw [Zx hx hz,if_neg (by omega),if_pos rfl] at h5;cases h5;rw [Zx hx hz,if_neg (by omega),if_neg (by omega)] at h6;exact h.rest k c z y (by omega) (by omega) h3 h4 hz h6
theorem Heap.max (O:STO lt) (h:Heap lt xs a 0 hi) {x:α} (hx:xs[a]?=some x) (hn:a+hi<=xs.length):∀ k y,k < hi->xs[a+k]?=some y->lt x y=false:=by
 intro k
 induction k using Nat.strongRecOn with
 | _ k ih =>
  intro y hk hy;rcases Nat.eq_zero_or_pos k with e | e
  ·subst e;rw [Nat.add_zero,hx] at hy;cases hy;exact O.irr _
  ·have hp:(k - 1) / 2 < k:=by omega
   have hz:=List.getElem?_eq_getElem (l:=xs) (i:=a+(k - 1) / 2) (by omega);exact O.le_tr (h ((k - 1) / 2) k _ y (Nat.zero_le _) (by omega) hk hz hy) (ih _ hp _ (by omega) hz)
end
def YY {α:Type} (lt:α->α->Bool) (xs:List α) (a b:Nat):Prop:=∀ i j x y,a<=i->i < j->j < b->xs[i]?=some x->xs[j]?=some y->lt y x=false
def Mid {α:Type} (lt:α->α->Bool) (xs:List α) (a a' b' b:Nat):Prop:=∀ i j x y,a<=i->i < j->j < b->¬(a'<=i/\j < b')->xs[i]?=some x->xs[j]?=some y->lt y x=false
section
variable {α:Type} {lt:α->α->Bool} {xs ys:List α} {a a' b' b:Nat}
theorem Mid.all {a b:Nat}:Mid lt xs a a b b:=fun i j x y h1 h2 h3 h4=>absurd ⟨h1,h3⟩ h4
theorem Mid.seg (h:Mid lt xs a a' b' b) (k:Seg a' b' xs ys) (ha:a<=a') (hb:b'<=b):Mid lt ys a a' b' b:=fun i j x y h1 h2 h3 h4 h5 h6=>by
 have key:∀ i x,a<=i->i < b->ys[i]?=some x->∃ i',a<=i'/\i' < b/\xs[i']?=some x/\(a'<=i/\i < b'->a'<=i'/\i' < b')/\(¬(a'<=i/\i < b')->i'=i):=fun i x h1 h2 h3=>by
  by_cases h7:a'<=i/\i < b'
  ·obtain ⟨i',h8,h9,h10⟩:=k.into i x h7.1 h7.2 h3;exact ⟨i',by omega,by omega,h10,fun _=>⟨h8,h9⟩,fun h=>absurd h7 h⟩
  ·rw [k.out i (by omega)] at h3;exact ⟨i,h1,h2,h3,fun h=>absurd h h7,fun _=>rfl⟩
 obtain ⟨i',p1,p2,p3,p4,p5⟩:=key i x h1 (by omega) h5;obtain ⟨j',q1,q2,q3,q4,q5⟩:=key j y (by omega) h3 h6;refine h i' j' x y p1 ?_ q2 ?_ p3 q3<;>by_cases hi:a'<=i/\i < b'<;>by_cases hj:a'<=j/\j < b'<;>first | (exfalso;omega) | skip
 all_goals first | (have:=p4 hi) | (have:=p5 hi)
 all_goals first | (have:=q4 hj) | (have:=q5 hj)
 all_goals omega
theorem Mid.srt (h:Mid lt xs a a' b' b) (k:YY lt xs a' b'):YY lt xs a b:=fun i j x y h1 h2 h3 h4 h5=>by
 by_cases hm:a'<=i/\j < b'
 ·exact k i j x y hm.1 h2 hm.2 h4 h5
 ·exact h i j x y h1 h2 h3 hm h4 h5
structure Part {α:Type} (lt:α->α->Bool) (xs:List α) (a m b:Nat) (v:α):Prop where
 at_:xs[m]?=some v
 lo:∀ k x,a<=k->k < m->xs[k]?=some x->lt x v=true
 hi:∀ k x,m < k->k < b->xs[k]?=some x->lt x v=false
theorem Part.left (O:STO lt) {m:Nat} {v:α} (p:Part lt xs a' m b' v) (h:Mid lt xs a a' b' b) (hs:YY lt xs a' m):Mid lt xs a (m+1) b' b:=fun i j x y h1 h2 h3 h4 h5 h6=>by
 by_cases hm:a'<=i/\j < b'
 ·rcases Nat.lt_trichotomy j m with e | e | e
  ·exact hs i j x y hm.1 h2 e h5 h6
  ·subst e;rw [p.at_] at h6;cases h6;exact O.asym (p.lo i x hm.1 h2 h5)
  ·rcases Nat.lt_trichotomy i m with e' | e' | e'
   ·exact O.le_tr (O.asym (p.lo i x hm.1 e' h5)) (p.hi j y e hm.2 h6)
   ·subst e';rw [p.at_] at h5;cases h5;exact p.hi j y e hm.2 h6
   ·omega
 ·exact h i j x y h1 h2 h3 hm h5 h6
theorem Part.right (O:STO lt) {m:Nat} {v:α} (p:Part lt xs a' m b' v) (h:Mid lt xs a a' b' b) (hs:YY lt xs (m+1) b'):Mid lt xs a a' m b:=fun i j x y h1 h2 h3 h4 h5 h6=>by
 by_cases hm:a'<=i/\j < b'
 ·rcases Nat.lt_trichotomy j m with e | e | e
  ·omega
  ·subst e;rw [p.at_] at h6;cases h6;exact O.asym (p.lo i x hm.1 h2 h5)
  ·rcases Nat.lt_trichotomy i m with e' | e' | e'
   ·exact O.le_tr (O.asym (p.lo i x hm.1 e' h5)) (p.hi j y e hm.2 h6)
   ·subst e';rw [p.at_] at h5;cases h5;exact p.hi j y e hm.2 h6
   ·exact hs i j x y (by omega) h2 hm.2 h5 h6
 ·exact h i j x y h1 h2 h3 hm h5 h6
theorem Part.seg {m:Nat} {v:α} (p:Part lt xs a m b v) {c d:Nat} (k:Seg c d xs ys) (h:(a<=c/\d<=m)\/(m < c/\d<=b)):Part lt ys a m b v:=by
 refine ⟨by rw [k.out m (by omega)];exact p.at_,fun i x h1 h2 h3=>?_,fun i x h1 h2 h3=>?_⟩
 ·by_cases hc:c<=i/\i < d
  ·obtain ⟨i',h4,h5,h6⟩:=k.into i x hc.1 hc.2 h3;exact p.lo i' x (by omega) (by omega) h6
  ·rw [k.out i (by omega)] at h3;exact p.lo i x h1 h2 h3
 ·by_cases hc:c<=i/\i < d
  ·obtain ⟨i',h4,h5,h6⟩:=k.into i x hc.1 hc.2 h3;exact p.hi i' x (by omega) (by omega) h6
  ·rw [k.out i (by omega)] at h3;exact p.hi i x h1 h2 h3
end
end Go.Gw

end
