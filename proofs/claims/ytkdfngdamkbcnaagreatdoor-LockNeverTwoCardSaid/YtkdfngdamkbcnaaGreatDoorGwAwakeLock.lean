/- Laws of the walk. Condition: each theorem says its own. -/
import Derived.Test.YtkdfngdamkbcnaaGreatDoorGwOnA
import Derived.Test.YtkdfngdamkbcnaaGreatDoorGwLib21
set_option linter.unusedVariables false
set_option linter.unusedSimpArgs false
set_option linter.unusedSectionVars false
section
set_option maxRecDepth 100000
namespace Go.Gw
open Go
theorem QEr:Qqy=some true:=by decide +kernel
end Go.Gw

end
section
set_option linter.unusedSectionVars false
namespace Go.Gw
section
variable {α β γ σ ρ:Type}
def Yv (p:α->Bool) (res:Nat->α->ρ):Nat->List α->ρ⊕Unit
 | _,[]=>.inr ()
 | k,x::xs=>if p x then .inl (res k x) else Yv p res (k+1) xs
theorem Zt {step:Int->Option (Int⊕(ρ⊕Unit))} (xs:List α) (p:α->Bool) (res:Nat->α->ρ)
  (hs:∀ k (hk:k < xs.length),step (k:Int)=(bif p xs[k] then some (.inr (.inl (res k xs[k]))) else some (.inl ((k+1:Nat):Int))))
  (he:step (xs.length:Int)=some (.inr (.inr ()))):loop step 0=some (Yv p res 0 xs):=by
 have key:∀ j k,j+k=xs.length->loop step (k:Int)=some (Yv p res k (xs.drop k)):=by
  intro j
  induction j with
  | zero =>
   intro k hk;obtain rfl:k=xs.length:=by omega
   rw [List.drop_length];exact Qcd he
  | succ j ih =>
   intro k hk;have hlt:k < xs.length:=by omega
   rw [List.drop_eq_getElem_cons hlt];have:=hs k hlt;cases hp:p xs[k] with
   | true=>simp_all [Qcd,Yv,if_true]
   | false=>grind [Qcc,Yv]
 have:=key xs.length 0 (by omega);trivial

def fld (f:Nat->γ->α->γ):Nat->γ->List α->γ
 | _,a,[]=>a
 | k,a,x::xs=>fld f (k+1) (f k a x) xs
theorem QLp {step:σ->Option (σ⊕β)} (xs:List α) (f:Nat->γ->α->γ) (S:γ->Nat->σ) (o:γ->β) (Inv:γ->Nat->Prop) (a0:γ) (h0:Inv a0 0)
  (hs:∀ k (hk:k < xs.length) a,Inv a k->step (S a k)=some (.inl (S (f k a xs[k]) (k+1)))/\Inv (f k a xs[k]) (k+1))
  (he:∀ a,Inv a xs.length->step (S a xs.length)=some (.inr (o a))):loop step (S a0 0)=some (o (fld f 0 a0 xs))/\Inv (fld f 0 a0 xs) xs.length:=by
 have key:∀ j k a,j+k=xs.length->Inv a k->loop step (S a k)=some (o (fld f k a (xs.drop k)))/\Inv (fld f k a (xs.drop k)) xs.length:=by
  intro j
  induction j with
  | zero =>
   intro k a hk hI;obtain rfl:k=xs.length:=by omega
   rw [List.drop_length];exact ⟨Qcd (he a hI),hI⟩
  | succ j ih =>
   intro k a hk hI;have hlt:k < xs.length:=by omega
   rw [List.drop_eq_getElem_cons hlt];have:=hs k hlt a hI;rw [Qcc this.1];exact ih (k+1) _ (by omega) this.2
 have:=key xs.length 0 a0 (by omega) h0;trivial

theorem XI (k:Nat) (h:k < 4611686018427387904):w64 ((k:Int)+1)=((k+1:Nat):Int):=by grind [Xw]
theorem XZ {k n:Nat} (h:k < n):decide ((k:Int) < (n:Int))=true:=by simp;omega
theorem X2 (n:Nat):decide ((n:Int) < (n:Int))=false:=by simp
end
end Go.Gw

end
section
set_option maxRecDepth 4096
namespace Go.Gw
open Go
def ZO:List Int->Int
 | []=>0
 | x::xs=>if x=0 then ZO xs else x
theorem ZE (l:List Int) (hl:l.length < 1073741824):ZQ l=some (ZO l):=by
  unfold ZQ;rw [Zt l (fun x=>!decide (x=0)) (fun _ x=>x)]
  · have key : ∀ (l : List Int) k, (Xx (Yv (fun x => !decide (x = 0)) (fun _ x => x) k l) fun (_ : Unit) => some 0) = some (ZO l) := by
      intro l
      induction l with
      | nil=>intro k;rfl
      | cons x xs ih =>
        intro k;by_cases h:x=0
        · simp [Yv,ZO,h];exact ih _
        · simp [Yv,ZO,h,Xx]
    simpa using key l 0
  · intro k hk;unfold Qri;rw [XZ hk,Xu hk,XI k (by omega)];rfl
  · unfold Qri;rw [X2];rfl
theorem Yx (b:Bool) (e:Int):Yf b e=some (bif b then 0 else e):=by cases b<;>rfl
theorem Qup (n lo hi:Int):Jy n lo hi=some (decide (lo<=n)&&decide (n<=hi)):=rfl
theorem QJm (n:Int):Qlk n=some (decide (0<=n)&&decide (n<=6)):=rfl
end Go.Gw

end
section
set_option maxRecDepth 4096
namespace Go.Gw
open Go
def Qcw (n:Int):Bool:=decide (0<=n)&&decide (n<=250)
end Go.Gw

end
section
set_option maxRecDepth 4096
namespace Go.Gw
open Go
attribute [local irreducible] loop
end Go.Gw

end
section
set_option maxRecDepth 4096
namespace Go.Gw
open Go
attribute [local irreducible] loop
end Go.Gw

end
section
set_option maxRecDepth 4096
namespace Go.Gw
open Go
attribute [local irreducible] loop
theorem Qeu {α:Type} (p:α->Bool):∀ (l:List α) (k:Nat),(Xx (β:=Int) (Yv p (fun k _=>(k:Int)) k l) fun (_:Unit)=>some (-1))=some (match Yv p (fun k _=>(k:Int)) k l with | .inl i=>i | .inr _=>-1)
 | l,k=>by cases Yv p (fun k _=>(k:Int)) k l<;>rfl
theorem Qgn {α:Type} (p:α->Bool):∀ (l:List α) (k:Nat),decide (0<=(match Yv p (fun k _=>(k:Int)) k l with | .inl i=>i | .inr _=>(-1:Int)))=l.any p
 | [],k=>by simp [Yv]
 | x::xs,k=>by
  by_cases h:p x=true
  ·simp [Yv,h]
  ·simp only [Yv,h,List.any_cons];have:=Qgn p xs (k+1);simpa [h] using this
theorem JW {α ρ:Type} {p:α->Bool} {res:Nat->α->ρ}:∀ (l:List α) (k:Nat),(Yv p res k l=.inr ()/\l.any p=false)\/∃ j x,Yv p res k l=.inl (res j x)/\p x=true/\l.any p=true
 | [],k=>.inl ⟨rfl,rfl⟩
 | x::xs,k=>by
  by_cases h:p x=true
  ·exact .inr ⟨k,x,by simp [Yv,h],h,by simp [h]⟩
  ·rcases JW xs (k+1) (p:=p) (res:=res) with ⟨h1,h2⟩ | ⟨j,y,h1,h2,h3⟩
   ·exact .inl ⟨by simp [Yv,h,h1],by simp [h,h2]⟩
   ·exact .inr ⟨j,y,by simp [Yv,h,h1],h2,by simp [h3]⟩
def XP (f:Nat->Int) (n:Nat):Option Nat:=(List.range n).find? fun i=>decide (f i≠0)
theorem Qkr (f:Nat->Int) (n:Nat):(XP f n=none/\∀ j,j < n->f j=0)\/∃ i,XP f n=some i/\i < n/\f i≠0/\∀ j,j < i->f j=0:=by
 cases h:XP f n with
 | none =>
  refine .inl ⟨rfl,fun j hj=>?_⟩;have:=List.find?_eq_none.1 h j (List.mem_range.2 hj);simpa using this
 | some i =>
  right;obtain ⟨h1,h2,h3⟩:=List.find?_range_eq_some.1 h;exact ⟨i,rfl,List.mem_range.1 h2,by simpa using h1,fun j hj=>by have:=h3 j hj;simpa using this⟩
theorem Qbh {σ ρ μ:Type} {step:σ->Option (σ⊕(ρ⊕μ))} (S:Nat->σ) (n:Nat) (f:Nat->Int) (res:Nat->Int->ρ) (o:μ)
  (hs:∀ k,k < n->(∀ j,j < k->f j=0)->step (S k)=if f k=0 then some (.inl (S (k+1))) else some (.inr (.inl (res k (f k))))) (he:(∀ j,j < n->f j=0)->step (S n)=some (.inr (.inr o))) :
  loop step (S 0)=some (match XP f n with | some i=>.inl (res i (f i)) | none=>.inr o):=by
 rcases Qkr f n with ⟨h1,h2⟩ | ⟨i,h1,h2,h3,h4⟩
 ·rw [h1];exact Qii S n (fun k hk=>by rw [hs k hk fun j hj=>h2 j (by omega),if_pos (h2 k hk)]) (he h2)
 ·rw [h1];exact Qii S i (fun k hk=>by rw [hs k (by omega) fun j hj=>h4 j (by omega),if_pos (h4 k hk)]) (by rw [hs i h2 h4,if_neg h3])
/-! ### Names -/
def Qhe (q:Int×Nat):Bool:=(!(((decide (97<=q.1))&&(decide (q.1<=122)))||((decide (65<=q.1))&&(decide (q.1<=90)))))&&((decide ((q.2:Int)=0))||((!decide (q.1=45))&&((decide (q.1 < 48))||(decide (57 < q.1)))))
def bi (s:ByteArray):List Int:=bl s
theorem Qki (s:ByteArray):(bi s).length=s.size:=Qaj s
theorem Qxc {s:ByteArray} {k:Nat} (h:k < (bi s).length):idx (α:=Int) (bl s) (k:Int)=some (bi s)[k]:=Xu (xs:=bi s) h
def Qan (s:ByteArray):Bool:=decide (1<=s.size)&&(decide (s.size<=12)&&!((bi s).zipIdx.any Qhe))
theorem QBf (s:ByteArray):s=ByteArray.mk #[]↔s.size=0:=by
 constructor
 ·intro h;subst h;rfl
 ·intro h;cases s with
  | mk d =>
   congr 1;exact Array.eq_empty_of_size_eq_zero h
theorem Qpj (s:ByteArray):Qfj s=some (Qan s):=by
  unfold Qfj Qan;have hlen:(bi s).zipIdx.length=s.size:=by rw [List.length_zipIdx,Qki]
  by_cases h:1<=s.size/\s.size<=12
  · have : (decide ((s.size : Int) < 1) || decide (12 < (s.size : Int))) = false := by
      rw [decide_eq_false (by omega),decide_eq_false (by omega)];rfl
    rw [this,cond_false,Zt (bi s).zipIdx Qhe (fun _ _=>false),Qv]
    · rcases JW (p:=Qhe) (res:=fun _ _=>false) (bi s).zipIdx 0 with ⟨k1,k2⟩ | ⟨j,x,k1,k2,k3⟩
      · rw [k1,k2];simp [h,Xx]
      · rw [k1,k3];simp [Xx]
    · intro k hk;rw [hlen] at hk;unfold Qpo;rw [XZ hk,cond_true,Qxc (show k < (bi s).length by rw [Qki];exact hk),Qv,XI k (by omega)];simp only [List.getElem_zipIdx,Nat.zero_add];rfl
    · rw [hlen];unfold Qpo;rw [X2];rfl
  · have : (decide ((s.size : Int) < 1) || decide (12 < (s.size : Int))) = true := by
      by_cases h1:s.size < 1
      · rw [decide_eq_true (by omega)];rfl
      · rw [decide_eq_true (p:=12 < (s.size:Int)) (by omega)];simp
    rw [this,cond_true];congr 1;by_cases h1:1<=s.size
    · rw [decide_eq_false (p:=s.size<=12) (by omega)];simp
    · rw [decide_eq_false h1];rfl
theorem Qqs (s:ByteArray) (hs:s.size<=1000):Qfu s=some (Qan s):=by
 unfold Qfu Qan;have hlen:(bi s).zipIdx.length=s.size:=by rw [List.length_zipIdx,Qki]
 have ht:tob s=some (bl s):=by unfold tob;rw [if_pos (by omega)]
 rw [ht,Qv,Zt (bi s).zipIdx Qhe (fun _ _=>false),Qv]
 ·rcases JW (p:=Qhe) (res:=fun _ _=>false) (bi s).zipIdx 0 with ⟨k1,k2⟩ | ⟨j,x,k1,k2,k3⟩
  ·rw [k1,k2];simp only [Xx,Bool.not_false,Bool.and_true,Option.some.injEq];by_cases h0:s.size=0
   ·rw [decide_eq_true ((QBf s).2 h0),decide_eq_false (show ¬ 1<=s.size by omega)];rfl
   ·rw [decide_eq_false (fun e=>h0 ((QBf s).1 e)),decide_eq_true (show 1<=s.size by omega)];simp only [Bool.not_false,Bool.true_and];by_cases h1:s.size<=12
    ·rw [decide_eq_true h1,decide_eq_true (by omega)]
    ·rw [decide_eq_false h1,decide_eq_false (by omega)]
  ·rw [k1,k3];simp [Xx]
 ·intro k hk;rw [hlen] at hk;have hk2:k < (bl s).length:=by rw [Qaj];exact hk
  unfold Qrk;rw [XZ hk2,cond_true,Qxc (show k < (bi s).length by rw [Qki];exact hk),Qv,XI k (by omega)];simp only [List.getElem_zipIdx,Nat.zero_add];rfl
 ·rw [hlen,show (s.size:Int)=((bl s).length:Int) by rw [Qaj]];unfold Qrk;rw [X2];rfl
theorem Qcv (n lo hi:Int):Jt n lo hi=some (decide (lo<=n)&&decide (n<=hi)):=rfl
theorem Qwz (a b:Int):ZO [a,b]=if a≠0 then a else b:=by
 unfold ZO ZO ZO;by_cases h:a=0<;>by_cases h2:b=0<;>simp [h,h2]
theorem Qfr (a b c:Int):ZO [a,b,c]=if a≠0 then a else if b≠0 then b else c:=by
 unfold ZO ZO ZO ZO;by_cases h:a=0<;>by_cases h2:b=0<;>by_cases h3:c=0<;>simp [h,h2,h3]
theorem Jl {α:Type} (l:List α) (f:α->Int) (k:Nat) (hk:k < l.length):(l[k]?.map f).getD 0=f l[k]:=by rw [List.getElem?_eq_getElem hk];rfl
theorem Qub {α β:Type} (l:List α) (f:α->β) (k:Nat) (hk:k < l.length):(l.take k).map f++[f l[k]]=(l.take (k+1)).map f:=by
 rw [List.take_add_one,List.getElem?_eq_getElem hk,List.map_append];rfl
theorem Qoy {α β:Type} {a:List α} {b:List β} (hl:a.length=b.length):(a.zip b).length=a.length:=by simp [hl]
theorem Qcy {α:Type} {xs:List α} {k:Nat} (h:k<=xs.length):cut xs 0 (k:Int)=some (xs.take k):=by
 unfold cut;rw [if_pos (by omega),Int.toNat_natCast];rfl
theorem Qvl {α:Type} [DecidableEq α] (l:List α) (v:α):(l.any fun x=>decide (v=x))=decide (v∈l):=by
 rw [Bool.eq_iff_iff];simp
theorem Qvm {α:Type} [DecidableEq α] (l:List α) (v:α):(l.any fun x=>decide (x=v))=decide (v∈l):=by
 rw [Bool.eq_iff_iff];simp
def Qbf {α:Type} (p:α->Bool) (l:List α):Int:=match Yv p (fun k _=>(k:Int)) 0 l with | .inl i=>i | .inr _=>(-1:Int)
theorem Qqr {α:Type} (p:α->Bool) (l:List α):decide (0<=Qbf p l)=l.any p:=Qgn p l 0
theorem Qxi (l:List Int) (v:Int) (hl:l.length < 1000000):Qjg l v=some (Qbf (fun x=>decide (v=x)) l):=by
 unfold Qjg Qbf;rw [Zt l (fun x=>decide (v=x)) (fun k _=>(k:Int)),Qv,Qeu]
 ·intro k hk;unfold Qtr;rw [XZ hk,Xu hk,XI k (by omega)];rfl
 ·unfold Qtr;rw [X2];rfl
theorem Qea (l:List Int) (v:Int) (hl:l.length < 1000000):Qbm l v=some (decide (v∈l)):=by
 unfold Qbm;rw [Qxi l v hl,Qv,Qqr,Qvl]
end Go.Gw

end
section
set_option maxRecDepth 4096
namespace Go.Gw
open Go
attribute [local irreducible] loop
def ZF (s:ByteArray) (others:List ByteArray):Int:=bif Qan s then (bif Zh others s then 5 else 0) else 4
def Zi (l:List ByteArray) (k:Nat):Int:=(l[k]?.map fun s=>ZF s (l.take k)).getD 0
def YA (p:Nf) (n:Int):Bool:=decide (0<=n)&&decide (n<=(p.Nb.length:Int) - 1)
def swX (p:Nf) (k:Nat) (s:Nt):Int:=bif YA p s.Nq then (bif (p.Nc.take k).any (fun o=>decide (o.Nq=s.Nq)) then 26 else 0) else 6
def swE (p:Nf) (k:Nat) (s:Nt):Int:=if ZF s.Name ((p.Nc.take k).map (·.Name))=0 then swX p k s else ZF s.Name ((p.Nc.take k).map (·.Name))
def ZJ (p:Nf) (k:Nat):Int:=(p.Nc[k]?.map (swE p k)).getD 0
def rsE (p:Nf) (r:Nn) (k:Nat) (s:Int):Int:=bif YA p s then (bif decide (s∈r.Nb.take k) then 26 else 0) else 6
def JF (p:Nf) (r:Nn) (k:Nat):Int:=(r.Nb[k]?.map (rsE p r k)).getD 0
def Qao (r:Nn) (q:Int×Nt):Bool:=bif decide (q.2.Nq∈r.Nb) then !(decide (q.1=0)||decide (q.1=1)) else !decide (q.1=-1)
def rtX (p:Nf) (r:Nn):Int :=
 if r.Nb.length < 2 then 10 else if p.Nb.length < r.Nb.length then 8 else
 match XP (JF p r) r.Nb.length with
 | some i=>JF p r i
 | none=>if r.Nu.length=p.Nc.length then (bif (r.Nu.zip p.Nc).any (Qao r) then 2 else 0) else 10
def rtE (p:Nf) (k:Nat) (r:Nn):Int:=if ZF r.Name ((p.Ni.take k).map (·.Name))=0 then rtX p r else ZF r.Name ((p.Ni.take k).map (·.Name))
def ZH (p:Nf) (k:Nat):Int:=(p.Ni[k]?.map (rtE p k)).getD 0
def ZG (p:Nf):Np×Int :=
 if p.Nb.length=0\/p.Na.length=0 then (Np.mk 0 0,10) else if 8 < p.Nb.length\/3 < p.Na.length\/4 < p.Nc.length\/10 < p.Ni.length then (Np.mk 0 0,8) else
 match XP (Zi p.Nb) p.Nb.length with
 | some i=>(Np.mk 1 i,Zi p.Nb i)
 | none=>match XP (Zi p.Na) p.Na.length with
  | some i=>(Np.mk 2 i,Zi p.Na i)
  | none=>match XP (ZJ p) p.Nc.length with
   | some i=>(Np.mk 3 i,ZJ p i)
   | none=>match XP (ZH p) p.Ni.length with
    | some i=>(Np.mk 4 i,ZH p i)
    | none=>(Np.mk 0 0,0)
structure PlantS (p:Nf):Prop where
 se:p.Nb.length < 1000
 tr:p.Na.length < 1000
 sw:p.Nc.length < 1000
 ro:p.Ni.length < 1000
 sn:∀ s∈p.Nb,s.size<=1000
 tn:∀ s∈p.Na,s.size<=1000
 wn:∀ s∈p.Nc,s.Name.size<=1000
 rn:∀ r∈p.Ni,r.Name.size<=1000/\r.Nb.length < 1000/\r.Nu.length < 1000
theorem Qqp {α:Type} (l:List α) (f:α->ByteArray) (k:Nat) (hk:k < l.length) (h:Zh ((l.take k).map f) (f l[k])=false):Z9 ((l.take k).map f) (f l[k])=(l.take (k+1)).map f:=by
 unfold Z9;rw [h,if_neg (by simp),Qub l f k hk]
theorem Qrw (s:ByteArray) (others:List ByteArray):ZO [bif Qan s then 0 else 4,bif !(Zh others s) then 0 else 5]=ZF s others:=by
 unfold ZF;cases Qan s<;>cases Zh others s<;>rfl
theorem Qrx {s:ByteArray} {others:List ByteArray} (h:ZF s others=0):Zh others s=false:=by
 unfold ZF at h;cases h1:Zh others s with
 | false=>rfl
 | true=>rw [h1] at h;cases h2:Qan s<;>rw [h2] at h<;>cases h
theorem QFu {n m:Int} (h:n≠m):decide (n=m)=false:=decide_eq_false h
theorem Qyn (l:List ByteArray) (mark:Int) (hl:l.length < 1000) (hn:∀ s∈l,s.size<=1000):Qig mark l=some (match XP (Zi l) l.length with | some i=>(Np.mk mark i,Zi l i) | none=>(Np.mk 0 0,0)):=by
 unfold Qig;have key:loop (Qif l mark) (0,[])=some (match XP (Zi l) l.length with | some i=>.inl (Np.mk mark i,Zi l i) | none=>.inr ()):=by
  refine Qbh (step:=Qif l mark) (fun k=>((k:Int),(l.take k).map id)) l.length (Zi l) (fun i e=>(Np.mk mark i,e)) () (fun k hk _=>?_) (fun _=>?_)
  ·have hs:Zi l k=ZF l[k] (l.take k):=Jl _ _ _ hk;have hi:=fun h=>Qqp l id k hk h
   simp only [List.map_id,id_eq] at hi ⊢;rw [hs];unfold Qif;simp only [XZ hk,cond_true,Xu hk,Qv];rw [show Qrm l[k]=some l[k] from rfl,Qv,Qqs _ (hn _ (List.getElem_mem hk)),Qv];simp only [Yx,Qv];rw [ZE _ (by simp),Qv,Qrw];by_cases h:ZF l[k] (l.take k)=0
   ·rw [if_pos h,h,hi (Qrx h),XI k (by omega)];rfl
   ·rw [if_neg h,QFu h];rfl
  ·unfold Qif;simp only [X2];rfl
 rw [key,Qv];cases XP (Zi l) l.length<;>rfl
theorem QFe (l:List Nt) (s:Nt) (hl:l.length < 1000):Qnn l s=some (l.any fun o=>decide (o.Nq=s.Nq)):=by
 unfold Qnn Qtj;rw [Zt l (fun o=>decide (o.Nq=s.Nq)) (fun k _=>(k:Int)),Qv,Qeu,Qv,Qgn]
 ·intro k hk;unfold Qti;rw [XZ hk,Xu hk,XI k (by omega)];rfl
 ·unfold Qti;rw [X2];rfl
theorem QAy (p:Nf) (hp:p.Nb.length < 1000) (n:Int):Jy n 0 (w64 ((p.Nb.length:Int) - 1))=some (YA p n):=by
 rw [Qup,Xw (by omega)];rfl
theorem QTz {p:Nf} (h:PlantS p) (k:Nat) (hk:k < p.Nc.length):Qlz p k=some (swX p k p.Nc[k]):=by
 have h1:=h.sw;unfold Qlz swX;rw [Xu hk,Qv,Qcy (by omega),Qv,QFe _ _ (by simp;omega),Qv,QAy p h.se,Qv,Yx,Qv,Yx,Qv,ZE _ (by simp),Qv];cases YA p p.Nc[k].Nq<;>cases (p.Nc.take k).any (fun o=>decide (o.Nq=p.Nc[k].Nq))<;>rfl
theorem QUa {p:Nf} (h:PlantS p):Qls 3 p.Nc p=some (match XP (ZJ p) p.Nc.length with | some i=>(Np.mk 3 i,ZJ p i) | none=>(Np.mk 0 0,0)):=by
 have hl:=h.sw;unfold Qls;have key:loop (Qie p p.Nc 3) (0,[])=some (match XP (ZJ p) p.Nc.length with | some i=>.inl (Np.mk 3 i,ZJ p i) | none=>.inr ()):=by
  refine Qbh (step:=Qie p p.Nc 3) (fun k=>((k:Int),(p.Nc.take k).map (·.Name))) p.Nc.length (ZJ p) (fun i e=>(Np.mk 3 i,e)) () (fun k hk _=>?_) (fun _=>?_)
  ·have hs:ZJ p k=swE p k p.Nc[k]:=Jl _ _ _ hk;have hi:=fun h=>Qqp p.Nc (·.Name) k hk h
   rw [hs];unfold Qie swE;simp only [XZ hk,cond_true,Xu hk,Qv];rw [show Qrb p.Nc[k]=some p.Nc[k].Name from rfl,Qv,Qqs _ (h.wn _ (List.getElem_mem hk)),Qv];simp only [Yx,Qv];rw [ZE _ (by simp),Qv,Qrw,show Qlf (k:Int) p=some (swX p k p.Nc[k]) by unfold Qlf;rw [QTz h k hk];rfl];by_cases h1:ZF p.Nc[k].Name ((p.Nc.take k).map (·.Name))=0
   ·simp only [h1,hi (Qrx h1),if_true,decide_true,Bool.true_and,cond_true,Qv,XI k (show k < 4611686018427387904 by omega)];by_cases h2:swX p k p.Nc[k]=0
    ·simp [h2]
    ·simp [h2]
   ·simp only [h1,if_false,decide_false,Bool.false_and,cond_false,Qv,Bool.not_false,cond_true]
  ·unfold Qie;simp only [X2];rfl
 rw [key,Qv];cases XP (ZJ p) p.Nc.length<;>rfl
theorem QRe {p:Nf} (h:PlantS p) (r:Nn) (hr:r.Nb.length < 1000):loop (Qlw r p) 0=some (match XP (JF p r) r.Nb.length with | some i=>.inl (JF p r i) | none=>.inr ()) :=
 Qbh (fun k=>(k:Int)) r.Nb.length (JF p r) (fun _ e=>e) () (fun k hk _=>by
  have hs:JF p r k=rsE p r k r.Nb[k]:=Jl _ _ _ hk;rw [hs];unfold Qlw rsE;rw [XZ hk,cond_true,Xu hk,Qv,Qcy (by omega),Qv,QAy p h.se,Qv,Yx,Qv,Qea _ _ (by simp;omega),Qv,Yx,Qv,ZE _ (by simp),Qv,XI k (by omega)];cases YA p r.Nb[k]<;>cases decide (r.Nb[k]∈r.Nb.take k)<;>rfl) (fun _=>by
  unfold Qlw;rw [X2];rfl)
theorem QRd {p:Nf} (r:Nn) (hr:r.Nb.length < 1000) (hn:r.Nu.length < 1000) (he:r.Nu.length=p.Nc.length):loop (Qlx r p) 0=some (Yv (Qao r) (fun _ _=>(2:Int)) 0 (r.Nu.zip p.Nc)) :=
 Zt (r.Nu.zip p.Nc) _ _ (fun k hk=>by
  rw [Qoy he] at hk;unfold Qlx;rw [XZ hk,cond_true,Xu hk,Qv,Xu (show k < p.Nc.length by omega),Qv,Qea _ _ (by omega),Qv,XI k (by omega)];simp only [List.getElem_zip,Qao];rw [show Qfv r.Nu[k]=some (decide (r.Nu[k]=0)||decide (r.Nu[k]=1)) from rfl];cases decide (p.Nc[k].Nq∈r.Nb)<;>rfl) (by
  rw [Qoy he];unfold Qlx;rw [X2];rfl)
theorem QRh {p:Nf} (h:PlantS p) (k:Nat) (hk:k < p.Ni.length):Qly p k=some (rtX p p.Ni[k]):=by
 obtain ⟨_,hr,hn⟩:=h.rn _ (List.getElem_mem hk);have h1:=h.se;have h2:=h.sw;unfold Qly rtX;rw [Xu hk,Qv,Yx,Qv,Yx,Qv,ZE _ (by simp),Qv];generalize p.Ni[k]=r at hr hn ⊢;by_cases h3:r.Nb.length < 2
 ·rw [if_pos h3,decide_eq_false (show ¬ (2<=(r.Nb.length:Int)) by omega)];rfl
 rw [if_neg h3,decide_eq_true (show 2<=(r.Nb.length:Int) by omega)];by_cases h4:p.Nb.length < r.Nb.length
 ·rw [if_pos h4,decide_eq_false (show ¬ ((r.Nb.length:Int)<=p.Nb.length) by omega)];rfl
 rw [if_neg h4,decide_eq_true (show (r.Nb.length:Int)<=p.Nb.length by omega),QRe h r hr];simp only [ZO,cond_true,if_true,decide_true,Bool.not_true,cond_false,Qv];cases XP (JF p r) r.Nb.length with
 | some i=>rfl
 | none =>
  simp only [Xx];by_cases h5:r.Nu.length=p.Nc.length
  ·rw [if_pos h5,decide_eq_true (by omega),Bool.not_true,cond_false,QRd r hr hn h5,Qv];rcases JW (p:=Qao r) (res:=fun _ _=>(2:Int)) (r.Nu.zip p.Nc) 0 with ⟨k1,k2⟩ | ⟨j,x,k1,k2,k3⟩
   ·rw [k1,k2];rfl
   ·rw [k1,k3];rfl
  ·rw [if_neg h5,decide_eq_false (by omega)];rfl
theorem QRt {p:Nf} (h:PlantS p):Qlr 4 p.Ni p=some (match XP (ZH p) p.Ni.length with | some i=>(Np.mk 4 i,ZH p i) | none=>(Np.mk 0 0,0)):=by
 have hl:=h.ro;unfold Qlr;have key:loop (Qid p p.Ni 4) (0,[])=some (match XP (ZH p) p.Ni.length with | some i=>.inl (Np.mk 4 i,ZH p i) | none=>.inr ()):=by
  refine Qbh (step:=Qid p p.Ni 4) (fun k=>((k:Int),(p.Ni.take k).map (·.Name))) p.Ni.length (ZH p) (fun i e=>(Np.mk 4 i,e)) () (fun k hk _=>?_) (fun _=>?_)
  ·have hs:ZH p k=rtE p k p.Ni[k]:=Jl _ _ _ hk;have hi:=fun h=>Qqp p.Ni (·.Name) k hk h
   rw [hs];unfold Qid rtE;simp only [XZ hk,cond_true,Xu hk,Qv];rw [show Qrd p.Ni[k]=some p.Ni[k].Name from rfl,Qv,Qqs _ (h.rn _ (List.getElem_mem hk)).1,Qv];simp only [Yx,Qv];rw [ZE _ (by simp),Qv,Qrw,show Qlg (k:Int) p=some (rtX p p.Ni[k]) by unfold Qlg;rw [QRh h k hk];rfl];by_cases h1:ZF p.Ni[k].Name ((p.Ni.take k).map (·.Name))=0
   ·simp only [h1,hi (Qrx h1),if_true,decide_true,Bool.true_and,cond_true,Qv,XI k (show k < 4611686018427387904 by omega)];by_cases h2:rtX p p.Ni[k]=0
    ·simp [h2]
    ·simp [h2]
   ·simp only [h1,if_false,decide_false,Bool.false_and,cond_false,Qv,Bool.not_false,cond_true]
  ·unfold Qid;simp only [X2];rfl
 rw [key,Qv];cases XP (ZH p) p.Ni.length<;>rfl
theorem QFf {p:Nf} (h:PlantS p):Qlh p=some (ZG p):=by
  unfold Qlh ZG;rw [Yx,Qv,Yx,Qv,ZE _ (by simp),Qv];by_cases h1:p.Nb.length=0\/p.Na.length=0
  · rw [if_pos h1, show (decide (0 < (p.Nb.length : Int)) && decide (0 < (p.Na.length : Int))) = false by
      rcases h1 with h1 | h1
      · rw [decide_eq_false (show ¬ (0 < (p.Nb.length:Int)) by omega)];rfl
      · rw [decide_eq_false (show ¬ (0 < (p.Na.length:Int)) by omega),Bool.and_false]]
    rfl
  rw [if_neg h1,decide_eq_true (show 0 < (p.Nb.length:Int) by omega),decide_eq_true (show 0 < (p.Na.length:Int) by omega)];by_cases h2:8 < p.Nb.length\/3 < p.Na.length\/4 < p.Nc.length\/10 < p.Ni.length
  · rw [if_pos h2, show (((decide (8 < (p.Nb.length : Int)) || decide (3 < (p.Na.length : Int))) || decide (4 < (p.Nc.length : Int))) || decide (10 < (p.Ni.length : Int))) = true by
      simp only [Bool.or_eq_true,decide_eq_true_eq];omega]
    rfl
  rw [if_neg h2, show (((decide (8 < (p.Nb.length : Int)) || decide (3 < (p.Na.length : Int))) || decide (4 < (p.Nc.length : Int))) || decide (10 < (p.Ni.length : Int))) = false by
      rw [decide_eq_false (by omega),decide_eq_false (by omega),decide_eq_false (by omega),decide_eq_false (by omega)];rfl]
  unfold Qqz Qra Qrc Qre;rw [Qyn _ _ h.se h.sn,Qyn _ _ h.tr h.tn,QUa h,QRt h];have hz:∀ {f:Nat->Int} {n i:Nat},XP f n=some i->f i≠0:=fun {f n i} hf=>by
    rcases Qkr f n with ⟨k1,_⟩ | ⟨j,k1,_,k3,_⟩
    · rw [k1] at hf;cases hf
    · rw [k1] at hf;cases hf;exact k3
  simp only [Bool.true_and,Bool.not_false,cond_true,ZO,if_true,decide_true,Bool.not_true,cond_false,Qv];cases h3:XP (Zi p.Nb) p.Nb.length with
  | some i=>simp [hz h3]
  | none =>
    simp only [decide_true,Bool.not_true,cond_false];cases h4:XP (Zi p.Na) p.Na.length with
    | some i=>simp [hz h4]
    | none =>
      simp only [decide_true,Bool.not_true,cond_false];cases h5:XP (ZJ p) p.Nc.length with
      | some i=>simp [hz h5]
      | none =>
        simp only [decide_true,Bool.not_true,cond_false];cases h6:XP (ZH p) p.Ni.length with
        | some i=>simp [hz h6]
        | none=>simp
theorem Qsq {p:Nf} (h:PlantS p):Qef p=some (ZG p).2:=by
 unfold Qef;rw [QFf h];rfl
end Go.Gw

end
section
set_option maxRecDepth 4096
namespace Go.Gw
open Go
attribute [local irreducible] loop
theorem Qwg {α:Type} {xs:List α} (h:1<=xs.length):cut xs 1 (xs.length:Int)=some (xs.drop 1):=by
 unfold cut;rw [if_pos (by omega),Int.toNat_natCast,List.take_length];rfl
structure StateS (x:Nh):Prop where
 sw:x.Nc.length < 1000
 tr:x.Na.length < 1000
 ch:∀ t∈x.Na,t.Ng.length < 1000
def Yk (x:Nh) (s:Int):Int:=Qbf (fun t:Nl=>decide (s∈t.Ng)) x.Na
def ZB (x:Nh) (s:Int):Bool:=x.Na.any fun t=>decide (s∈t.Ng)
theorem QJd (x:Nh) (s:Int):decide (0<=Yk x s)=ZB x s:=Qqr _ _
theorem QJe (p:Nf) {x:Nh} (h:StateS x) (s:Int):Qln (some ⟨p,x⟩) s=some (Yk x s):=by
 have h1:=h.tr;unfold Qln Qtk Yk Qbf;rw [Qv];show (Option.bind (Option.bind (loop (Qnr s x.Na) 0) _) _)=_;rw [Zt x.Na (fun t=>decide (s∈t.Ng)) (fun k _=>(k:Int)),Qv,Qeu,Qv]
 ·intro k hk;unfold Qnr Qro;rw [XZ hk,cond_true,Xu hk,Qv,Qea _ _ (by have:=h.ch _ (List.getElem_mem hk);omega),Qv,Qv,XI k (by omega)]
 ·unfold Qnr;rw [X2];rfl
theorem Quc (p:Nf) {x:Nh} (h:StateS x) (l:List Int) (hl:l.length < 1000):Qfy (some ⟨p,x⟩) l=some (l.any (ZB x)):=by
 unfold Qfy Qth Qtm;rw [Zt l (ZB x) (fun k _=>(k:Int)),Qv,Qeu,Qv,Qgn]
 ·rfl
 ·intro k hk;unfold Qtl Qrr;rw [XZ hk,cond_true,Xu hk,Qv,QJe p h,Qv,Qv,QJd,XI k (by omega)]
 ·unfold Qtl;rw [X2];rfl
def Qht (secs:List Int) (q:Nt×(Int×Int)):Bool:=decide (q.1.Nq∈secs)&&!decide (q.2.1=q.2.2)
def ZP (p:Nf) (sw:List Int) (r:Nn) (secs:List Int):Bool:=!((p.Nc.zip (r.Nu.zip sw)).any (Qht secs))
theorem QTh (α:Type) (p:α->Bool) (l:List α):(Xx (Yv p (fun _ _=>false) 0 l) fun (_:Unit)=>some true)=some (!(l.any p)):=by
 rcases JW (p:=p) (res:=fun _ _=>false) l 0 with ⟨k1,k2⟩ | ⟨j,x,k1,k2,k3⟩
 ·rw [k1,k2];rfl
 ·rw [k1,k3];rfl
theorem Qxp {p:Nf} {x:Nh} {r:Nn} {secs:List Int} (h1:r.Nu.length=p.Nc.length) (h2:x.Nc.length=p.Nc.length) (h3:p.Nc.length < 1000) (hs:secs.length < 1000):Qia (some ⟨p,x⟩) r secs=some (ZP p x.Nc r secs):=by
 unfold Qia ZP;have hlen:(p.Nc.zip (r.Nu.zip x.Nc)).length=p.Nc.length:=by simp [h1,h2]
 rw [Qv,Zt (p.Nc.zip (r.Nu.zip x.Nc)) (Qht secs) (fun _ _=>false),Qv,QTh]
 ·intro k hk;rw [hlen] at hk;unfold Qrq;rw [XZ hk,cond_true,Xu hk,Qv,Qea _ _ (by omega),Qv,XI k (by omega)];simp only [Qv];rw [Xu (show k < r.Nu.length by omega),Xu (show k < x.Nc.length by omega)];simp only [List.getElem_zip,Qht,Qv];cases decide (p.Nc[k].Nq∈secs)<;>rfl
 ·rw [hlen];unfold Qrq;rw [X2];rfl
theorem QFh (l:List Nl) (h:l.length < 1000000):Qnl l=some l:=by
 unfold Qnl;rw [JO (by simp;omega)];rfl
theorem Qpx (l:List Int) (h:l.length < 1000000):Qdi l=some l:=by
 unfold Qdi;rw [JO (by simp;omega)];rfl
theorem Qhr {α:Type} {xs:List α} {i:Int} (h0:0<=i) (h:i.toNat < xs.length):idx xs i=some xs[i.toNat]:=by
 unfold idx;rw [if_pos h0,List.getElem?_eq_getElem h]
theorem QMj (p:Nf) (x:Nh) {a:Int} (h0:0<=a) (hk:a.toNat < x.Na.length) (hl:x.Na.length < 1000) (c:List Int) (u:Int):Qca (some ⟨p,x⟩) a c u=some (some ⟨p,⟨x.Nc,x.Na.set a.toNat ⟨c,u⟩,x.Nk⟩⟩):=by
 unfold Qca;rw [Qv,QFh _ (by show x.Na.length < _;omega),Qv];show Option.bind (idx x.Na a) _=_;rw [Qhr h0 hk,Qv]
theorem QIw (n:Nat) (h:n < 1000000):Qnq (n:Int)=some []:=by
 unfold Qnq;rw [decide_eq_false (show ¬ (n:Int) < 0 by omega)];simp only [cond_false,Qv,Int.natCast_zero,Int.sub_zero];rw [show w64 (0:Int)=0 from rfl,Int.sub_zero,Xw (by omega)];by_cases h0:0 < (n:Int)
 ·rw [decide_eq_true h0,cond_true];unfold mkZ
  first
  | (rw [if_pos (by omega),Qv];unfold cut;rw [if_pos (by simp)];rfl)
  | skip
 ·rw [decide_eq_false h0];rfl
theorem QFn (a b:List Int) (ha:a.length < 1000) (hb:b.length < 1000):Qnm [a,b]=some (a++b):=by
 have f0:Qgk [a,b] (0,0)=some (.inl ((a.length:Int),1)):=by
  unfold Qgk;simp only [show decide ((0:Int) < (([a,b]:List (List Int)).length:Int))=true from rfl,cond_true,show idx [a,b] (0:Int)=some a from rfl,Qv,Int.zero_add];rw [Xw (by omega),decide_eq_false (by omega)];rfl
 have f1:Qgk [a,b] ((a.length:Int),1)=some (.inl (((a.length+b.length:Nat):Int),2)):=by
  unfold Qgk;simp only [show decide ((1:Int) < (([a,b]:List (List Int)).length:Int))=true from rfl,cond_true,show idx [a,b] (1:Int)=some b from rfl,Qv];rw [Xw (by omega),decide_eq_false (by omega),show ((a.length:Int)+(b.length:Int))=((a.length+b.length:Nat):Int) by omega];rfl
 have f2:Qgk [a,b] (((a.length+b.length:Nat):Int),2)=some (.inr ((a.length+b.length:Nat):Int)):=rfl;have g0:Qgl [a,b] ([],0)=some (.inl (a,1)):=by
  unfold Qgl;simp only [show decide ((0:Int) < (([a,b]:List (List Int)).length:Int))=true from rfl,cond_true,show idx [a,b] (0:Int)=some a from rfl,Qv];rw [JO (by simp;omega)];rfl
 have g1:Qgl [a,b] (a,1)=some (.inl (a++b,2)):=by
  unfold Qgl;simp only [show decide ((1:Int) < (([a,b]:List (List Int)).length:Int))=true from rfl,cond_true,show idx [a,b] (1:Int)=some b from rfl,Qv];rw [JO (by omega)];rfl
 have g2:Qgl [a,b] (a++b,2)=some (.inr (a++b)):=rfl;unfold Qnm;rw [Qcc f0,Qcc f1,Qcd f2,Qv,QIw _ (by omega),Qv,Qcc g0,Qcc g1,Qcd g2,Qv]
/-! ### Events -/
def Qab (p:Nf) (n:Int):Bool:=decide (0<=n)&&decide (n<=(p.Na.length:Int) - 1)
def Qev (p:Nf) (n:Int):Bool:=decide (0<=n)&&decide (n<=(p.Nc.length:Int) - 1)
def Qeo (p:Nf) (n:Int):Bool:=decide (0<=n)&&decide (n<=(p.Ni.length:Int) - 1)
def Y2 (n:Int):Bool:=decide (n=0)||decide (n=1)
def YX (p:Nf) (e:Nj):Int :=
 if ¬ (0<=e.Kind/\e.Kind<=6) then 15 else if e.Kind=2 then (bif Qev p e.A then (bif Y2 e.B then 0 else 2) else 6) else
 bif Qab p e.A then (if e.Kind=0 then (bif YA p e.B then 0 else 6) else if e.Kind=1 then (bif Qeo p e.B then 0 else 6) else if e.B=0 then 0 else 3) else 6
theorem Qle {n:Int} {k:Nat} (hk:k < 1000):Jy n 0 (w64 ((k:Int) - 1))=some (decide (0<=n)&&decide (n<=(k:Int) - 1)):=by
 rw [Qup,Xw (by omega)]
theorem QAz {p:Nf} (h:PlantS p) (n:Int):Qih p n=some (bif YA p n then 0 else 6):=by
 unfold Qih;rw [Qle h.se,Qv,Yx];rfl
theorem QVa {p:Nf} (h:PlantS p) (n:Int):Qma p n=some (bif Qab p n then 0 else 6):=by
 unfold Qma;rw [Qle h.tr,Qv,Yx];rfl
theorem Qwr {p:Nf} (h:PlantS p) (e:Nj):Qhy p e=some (YX p e):=by
  unfold Qhy YX;rw [QJm,Qv];by_cases hk:0<=e.Kind/\e.Kind<=6
  · rw [if_neg (by omega),show (decide (0<=e.Kind)&&decide (e.Kind<=6))=true by simp [hk.1,hk.2]];simp only [Bool.not_true,cond_false];by_cases h2:e.Kind=2
    · rw [if_pos h2,decide_eq_true h2,cond_true,Qle h.sw,Qv,Yx,Qv,show Qfv e.B=some (Y2 e.B) from rfl,Qv,Yx,Qv,ZE _ (by simp),Qv];show some (ZO [bif Qev p e.A then 0 else 6,_])=_;cases Qev p e.A<;>cases Y2 e.B<;>rfl
    · rw [if_neg h2,decide_eq_false h2,cond_false,Yx,Qv,QAz h,Qv,Qle h.ro,Qv,Yx,Qv,QVa h];show (Option.bind (bif decide (e.Kind=0) then some (bif YA p e.B then 0 else 6) else bif decide (e.Kind=1) then some (bif Qeo p e.B then 0 else 6) else some _) _)=_;by_cases h0:e.Kind=0
      · rw [if_pos h0,decide_eq_true h0,cond_true,Qv,Qv,ZE _ (by simp),Qv];cases Qab p e.A<;>cases YA p e.B<;>rfl
      · rw [if_neg h0,decide_eq_false h0,cond_false];by_cases h1:e.Kind=1
        · rw [if_pos h1,decide_eq_true h1,cond_true,Qv,Qv,ZE _ (by simp),Qv];cases Qab p e.A<;>cases Qeo p e.B<;>rfl
        · rw [if_neg h1,decide_eq_false h1,cond_false,Qv,Qv,ZE _ (by simp),Qv];by_cases h3:e.B=0
          · rw [if_pos h3,decide_eq_true h3];cases Qab p e.A<;>rfl
          · rw [if_neg h3,decide_eq_false h3];cases Qab p e.A<;>rfl
  · rw [if_pos hk, show (decide (0 <= e.Kind) && decide (e.Kind <= 6)) = false by
      rw [Bool.and_eq_false_iff,decide_eq_false_iff_not,decide_eq_false_iff_not];omega]
    rfl
def YJ (x:Nh) (e:Nj):Nl:=x.Na[e.A.toNat]?.getD ⟨[],0⟩
def Qgq (p:Nf) (e:Nj):Nt:=p.Nc[e.A.toNat]?.getD ⟨ByteArray.mk #[],0⟩
def YD (p:Nf) (e:Nj):Nn:=p.Ni[e.B.toNat]?.getD ⟨ByteArray.mk #[],[],[]⟩
def ZS (p:Nf) (x:Nh) (e:Nj):Int :=
 if e.Kind=2 then (bif ZB x (Qgq p e).Nq then 17 else 0) else
 if e.Kind=0 then (if (YJ x e).Ng.length=0 then (bif ZB x e.B then 17 else 0) else 22) else
 if (YJ x e).Ng.length=0 then 22 else
 if e.Kind=1 then (if (YD p e).Nb.head?=(YJ x e).Ng.getLast? then (bif ((YD p e).Nb.drop 1).any (ZB x) then 17 else bif ZP p x.Nc (YD p e) (YD p e).Nb then 0 else 13) else 23) else
 if e.Kind=4 then (if 1 < (YJ x e).Nr then 0 else 12) else
 if e.Kind=3\/e.Kind=5 then (if (YJ x e).Nr < (YJ x e).Ng.length then 0 else 12) else
 if (YJ x e).Ng.length=1 then 0 else 17
def trX (p:Nf) (t:Nl) (e:Nj):Nl :=
 if e.Kind=0 then ⟨[e.B],1⟩ else if e.Kind=1 then ⟨t.Ng++(YD p e).Nb.drop 1,t.Nr⟩ else if e.Kind=3 then ⟨t.Ng,t.Nr+1⟩ else
 if e.Kind=4 then ⟨t.Ng.drop 1,t.Nr - 1⟩ else if e.Kind=5 then ⟨t.Ng.take (t.Ng.length - 1),t.Nr⟩ else ⟨[],0⟩
def Zo (p:Nf) (x:Nh) (e:Nj):Nh :=
 if e.Kind=2 then ⟨x.Nc.set e.A.toNat e.B,x.Na,x.Nk⟩ else ⟨x.Nc,x.Na.set e.A.toNat (trX p (YJ x e) e),x.Nk⟩
end Go.Gw

end
section
set_option maxRecDepth 4096
namespace Go.Gw
open Go
attribute [local irreducible] loop
theorem Qho {f:Nat->Int} {n:Nat} (h:XP f n=none):∀ j,j < n->f j=0:=by
 rcases Qkr f n with ⟨_,h2⟩ | ⟨i,h1,_⟩
 ·exact h2
 ·rw [h1] at h;cases h
theorem Qbd {f:Nat->Int} {n i:Nat} (h:XP f n=some i):i < n/\f i≠0/\∀ j,j < i->f j=0:=by
 rcases Qkr f n with ⟨h1,_⟩ | ⟨j,h1,h2,h3,h4⟩
 ·rw [h1] at h;cases h
 ·rw [h1] at h;cases h;exact ⟨h2,h3,h4⟩
theorem QIk {f:Nat->Int} {n:Nat} (h:∀ j,j < n->f j=0):XP f n=none:=by
 cases hf:XP f n with
 | none=>rfl
 | some i=>obtain ⟨h1,h2,_⟩:=Qbd hf;exact absurd (h i h1) h2
theorem Qzl {α:Type} {l:List α} (h:∀ k (hk:k < l.length),l[k]∉l.take k):l.Nodup:=by
 unfold List.Nodup;rw [List.pairwise_iff_getElem];intro i j hi hj hij e;refine h j hj ?_;rw [<-e];exact List.mem_take_iff_getElem.2 ⟨i,by omega,rfl⟩
theorem Qzm {α:Type} {l:List α} (h:l.Nodup) {k:Nat} (hk:k < l.length):l[k]∉l.take k:=by
 intro hm;obtain ⟨i,hi,e⟩:=List.mem_take_iff_getElem.1 hm;unfold List.Nodup at h;rw [List.pairwise_iff_getElem] at h;exact h i k (by omega) hk (by omega) e
structure PlantOk (p:Nf):Prop where
 s1:1<=p.Nb.length
 s8:p.Nb.length<=8
 t1:1<=p.Na.length
 t3:p.Na.length<=3
 w4:p.Nc.length<=4
 r10:p.Ni.length<=10
 ws:∀ s∈p.Nc,YA p s.Nq=true
 r2:∀ r∈p.Ni,2<=r.Nb.length
 r8:∀ r∈p.Ni,r.Nb.length<=p.Nb.length
 rs:∀ r∈p.Ni,∀ s∈r.Nb,YA p s=true
 rd:∀ r∈p.Ni,r.Nb.Nodup
 rn:∀ r∈p.Ni,r.Nu.length=p.Nc.length
 rx:∀ r∈p.Ni,(r.Nu.zip p.Nc).any (Qao r)=false
theorem Qgg {p:Nf} {r:Nn} (h:rtX p r=0):2<=r.Nb.length/\r.Nb.length<=p.Nb.length/\(∀ s∈r.Nb,YA p s=true)/\r.Nb.Nodup/\r.Nu.length=p.Nc.length/\(r.Nu.zip p.Nc).any (Qao r)=false:=by
 unfold rtX at h;by_cases h1:r.Nb.length < 2
 ·rw [if_pos h1] at h;cases h
 rw [if_neg h1] at h;by_cases h2:p.Nb.length < r.Nb.length
 ·rw [if_pos h2] at h;cases h
 rw [if_neg h2] at h;cases hf:XP (JF p r) r.Nb.length with
 | some i=>rw [hf] at h;exact absurd h (Qbd hf).2.1
 | none =>
  rw [hf] at h;have hz:∀ k (hk:k < r.Nb.length),rsE p r k r.Nb[k]=0:=fun k hk=>by
   have:=Qho hf k hk;rwa [show JF p r k=rsE p r k r.Nb[k] from Jl _ _ _ hk] at this
  have hz2:∀ k (hk:k < r.Nb.length),YA p r.Nb[k]=true/\r.Nb[k]∉r.Nb.take k:=fun k hk=>by
   have:=hz k hk;unfold rsE at this;cases hb:YA p r.Nb[k] with
   | false=>rw [hb] at this;cases this
   | true =>
    rw [hb,cond_true] at this;refine ⟨rfl,fun hm=>?_⟩;rw [decide_eq_true hm] at this;cases this
  have h3:r.Nu.length=p.Nc.length/\(r.Nu.zip p.Nc).any (Qao r)=false:=by
   by_cases h5:r.Nu.length=p.Nc.length
   ·simp only [h5,if_true] at h;refine ⟨h5,?_⟩;cases hb:(r.Nu.zip p.Nc).any (Qao r) with
    | false=>rfl
    | true=>rw [hb] at h;cases h
   ·simp only [h5,if_false] at h;cases h
  refine ⟨by omega,by omega,fun s hs=>?_,Qzl fun k hk=>(hz2 k hk).2,h3.1,h3.2⟩;obtain ⟨k,hk,rfl⟩:=List.getElem_of_mem hs;exact (hz2 k hk).1
theorem Qmm {p:Nf} (h:(ZG p).2=0):PlantOk p:=by
 unfold ZG at h;by_cases h1:p.Nb.length=0\/p.Na.length=0
 ·rw [if_pos h1] at h;cases h
 rw [if_neg h1] at h;by_cases h2:8 < p.Nb.length\/3 < p.Na.length\/4 < p.Nc.length\/10 < p.Ni.length
 ·rw [if_pos h2] at h;cases h
 rw [if_neg h2] at h;cases h3:XP (Zi p.Nb) p.Nb.length with
 | some i=>rw [h3] at h;exact absurd h (Qbd h3).2.1
 | none =>
  rw [h3] at h;cases h4:XP (Zi p.Na) p.Na.length with
  | some i=>rw [h4] at h;exact absurd h (Qbd h4).2.1
  | none =>
   rw [h4] at h;cases h5:XP (ZJ p) p.Nc.length with
   | some i=>rw [h5] at h;exact absurd h (Qbd h5).2.1
   | none =>
    rw [h5] at h;cases h6:XP (ZH p) p.Ni.length with
    | some i=>rw [h6] at h;exact absurd h (Qbd h6).2.1
    | none =>
     have hr:∀ r∈p.Ni,rtX p r=0:=fun r hr=>by
      obtain ⟨k,hk,rfl⟩:=List.getElem_of_mem hr;have:=Qho h6 k hk;rw [show ZH p k=rtE p k p.Ni[k] from Jl _ _ _ hk] at this;unfold rtE at this;by_cases hn:ZF p.Ni[k].Name ((p.Ni.take k).map (·.Name))=0
      ·rwa [if_pos hn] at this
      ·rw [if_neg hn] at this;exact absurd this hn
     refine ⟨by omega,by omega,by omega,by omega,by omega,by omega,fun s hs=>?_,fun r h=>(Qgg (hr r h)).1,fun r h=>(Qgg (hr r h)).2.1,fun r h=>(Qgg (hr r h)).2.2.1,fun r h=>(Qgg (hr r h)).2.2.2.1,fun r h=>(Qgg (hr r h)).2.2.2.2.1,fun r h=>(Qgg (hr r h)).2.2.2.2.2⟩;obtain ⟨k,hk,rfl⟩:=List.getElem_of_mem hs;have:=Qho h5 k hk;rw [show ZJ p k=swE p k p.Nc[k] from Jl _ _ _ hk] at this;unfold swE at this;by_cases hn:ZF p.Nc[k].Name ((p.Nc.take k).map (·.Name))=0
     ·rw [if_pos hn] at this;unfold swX at this;cases hb:YA p p.Nc[k].Nq with
      | true=>rfl
      | false=>rw [hb] at this;cases this
     ·rw [if_neg hn] at this;exact absurd this hn
def Qaq (r:Nn) (a b:Int):Bool:=(r.Nb.zip (r.Nb.drop 1)).any fun q=>decide (q.1=a)&&decide (q.2=b)
def Qbg (p:Nf) (sw:List Int) (a b:Int):Bool:=p.Ni.any fun r=>Qaq r a b&&ZP p sw r [a,b]
theorem pairB_iff {r:Nn} {a b:Int}:Qaq r a b=true↔∃ k,∃ hk:k+1 < r.Nb.length,r.Nb[k]=a/\r.Nb[k+1]=b:=by
 unfold Qaq;rw [List.any_eq_true];constructor
 ·rintro ⟨q,hq,h⟩;obtain ⟨k,hk,rfl⟩:=List.getElem_of_mem hq;simp only [List.length_zip,List.length_drop] at hk;simp only [List.getElem_zip,List.getElem_drop,Bool.and_eq_true,decide_eq_true_eq] at h;refine ⟨k,by omega,h.1,?_⟩;rw [<-h.2];congr 1;omega
 ·rintro ⟨k,hk,h1,h2⟩;refine ⟨(r.Nb[k],r.Nb[k+1]),?_,by simp [h1,h2]⟩;rw [List.mem_iff_getElem];refine ⟨k,by simp only [List.length_zip,List.length_drop];omega,?_⟩;simp only [List.getElem_zip,List.getElem_drop,Prod.mk.injEq,true_and];congr 1;omega
structure StateOk (p:Nf) (x:Nh):Prop where
 sw:x.Nc.length=p.Nc.length
 tr:x.Na.length=p.Na.length
 pos:∀ n∈x.Nc,Y2 n=true
 cnt:Qcw x.Nk=true
 un:∀ t∈x.Na,(t.Ng=[]/\t.Nr=0)\/(1<=t.Nr/\t.Nr<=t.Ng.length)
 sc:∀ t∈x.Na,∀ s∈t.Ng,YA p s=true
 nd:∀ t∈x.Na,t.Ng.Nodup
 dj:∀ i j (hi:i < x.Na.length) (hj:j < x.Na.length),i≠j->∀ s∈x.Na[i].Ng,s∉x.Na[j].Ng
 ld:∀ t∈x.Na,∀ k (hk:k+1 < t.Ng.length),Qbg p x.Nc t.Ng[k] t.Ng[k+1]=true
theorem Qzk:∀ (n:Nat) (l:List Int),l.Nodup->(∀ s∈l,0<=s/\s < (n:Int))->l.length<=n
  | 0,l,_,h=>by
    cases l with
    | nil=>simp
    | cons x xs=>have:=h x (by simp);omega
  | n+1,l,hn,h=>by
    have h1:=Qzk n (l.filter fun s=>decide (s≠(n:Int))) (hn.filter _) fun s hs=>by
      rw [List.mem_filter] at hs;have:=h s hs.1;have:=hs.2;simp at this;omega
    have h2:l.length<=(l.filter fun s=>decide (s≠(n:Int))).length+1:=by
      clear h h1
      induction l with
      | nil=>simp
      | cons x xs ih =>
        rw [List.nodup_cons] at hn;by_cases hx:x=(n:Int)
        · have : xs.filter (fun s => decide (s ≠ (n : Int))) = xs := by
            rw [List.filter_eq_self];intro a ha;simp only [ne_eq,decide_not,Bool.not_eq_true',decide_eq_false_iff_not];intro e;subst hx;subst e;exact hn.1 ha
          rw [List.filter_cons_of_neg (by simp [hx]),this];simp
        · rw [List.filter_cons_of_pos (by simp [hx])];have:=ih hn.2;simp only [List.length_cons];omega
    omega
theorem StateOk.len {p:Nf} {x:Nh} (h:StateOk p x) {t:Nl} (ht:t∈x.Na):t.Ng.length<=p.Nb.length :=
 Qzk _ _ (h.nd t ht) fun s hs=>by
  have:=h.sc t ht s hs;unfold YA at this;simp at this;omega
theorem StateOk.s {p:Nf} (hp:PlantOk p) {x:Nh} (h:StateOk p x):StateS x :=
 ⟨by have:=h.sw;have:=hp.w4;omega,by have:=h.tr;have:=hp.t3;omega,fun t ht=>by have:=h.len ht;have:=hp.s8;omega⟩
end Go.Gw

end
section
set_option maxRecDepth 4096
namespace Go.Gw
open Go
attribute [local irreducible] loop
theorem liesB_iff {p:Nf} {sw:List Int} {r:Nn} {secs:List Int}:ZP p sw r secs=true↔∀ k (h1:k < p.Nc.length) (h2:k < r.Nu.length) (h3:k < sw.length),p.Nc[k].Nq∈secs->r.Nu[k]=sw[k]:=by
  unfold ZP;rw [Bool.not_eq_true',List.any_eq_false];constructor
  · intro h k h1 h2 h3 hm;have:=h (p.Nc[k],(r.Nu[k],sw[k])) (by
      rw [List.mem_iff_getElem];exact ⟨k,by simp only [List.length_zip];omega,by simp only [List.getElem_zip]⟩)
    simp only [Qht,hm,decide_true,Bool.true_and,Bool.not_eq_true',decide_eq_false_iff_not,Decidable.not_not] at this;exact this
  · intro h q hq;obtain ⟨k,hk,rfl⟩:=List.getElem_of_mem hq;simp only [List.length_zip] at hk;simp only [List.getElem_zip,Qht,Bool.and_eq_true,decide_eq_true_eq,Bool.not_eq_true',decide_eq_false_iff_not,not_and,Decidable.not_not];exact fun hm=>h k (by omega) (by omega) (by omega) hm
theorem QKa {p:Nf} {sw:List Int} {r:Nn} {a b:List Int} (h:ZP p sw r a=true) (hs:∀ s∈b,s∈a):ZP p sw r b=true :=
 liesB_iff.2 fun k h1 h2 h3 hm=>liesB_iff.1 h k h1 h2 h3 (hs _ hm)
theorem QKb {p:Nf} {sw:List Int} {r:Nn} {a:List Int} {i:Nat} {v:Int} (hi:∀ h:i < p.Nc.length,p.Nc[i].Nq∉a) (h:ZP p sw r a=true):ZP p (sw.set i v) r a=true :=
 liesB_iff.2 fun k h1 h2 h3 hm=>by
  have hne:i≠k:=fun e=>by subst e;exact hi h1 hm
  rw [List.getElem_set_ne hne];exact liesB_iff.1 h k h1 h2 (by simpa using h3) hm
theorem leadsB_iff {p:Nf} {sw:List Int} {a b:Int}:Qbg p sw a b=true↔∃ r∈p.Ni,Qaq r a b=true/\ZP p sw r [a,b]=true:=by
 unfold Qbg;rw [List.any_eq_true];simp only [Bool.and_eq_true]
theorem Qod {x:Nh} {s:Int} (h:ZB x s=false):∀ t∈x.Na,s∉t.Ng:=by
 unfold ZB at h;rw [List.any_eq_false] at h;intro t ht hm;exact h t ht (decide_eq_true hm)
theorem Qgj {p:Nf} {x:Nh} (h:StateOk p x) {a:Nat} (ha:a < x.Na.length) {t:Nl} (h1:(t.Ng=[]/\t.Nr=0)\/(1<=t.Nr/\t.Nr<=t.Ng.length)) (h2:∀ s∈t.Ng,YA p s=true) (h3:t.Ng.Nodup)
  (h4:∀ j (hj:j < x.Na.length),j≠a->∀ s∈t.Ng,s∉x.Na[j].Ng) (h5:∀ k (hk:k+1 < t.Ng.length),Qbg p x.Nc t.Ng[k] t.Ng[k+1]=true):StateOk p ⟨x.Nc,x.Na.set a t,x.Nk⟩:=by
 have hm:∀ u∈x.Na.set a t,u=t\/u∈x.Na:=fun u hu=>by
  rcases List.mem_or_eq_of_mem_set hu with h | h
  ·exact .inr h
  ·exact .inl h
 refine ⟨h.sw,by simpa using h.tr,h.pos,h.cnt,fun u hu=>?_,fun u hu=>?_,fun u hu=>?_,fun i j hi hj hij s hs=>?_,fun u hu=>?_⟩
 ·rcases hm u hu with rfl | hu
  ·exact h1
  ·exact h.un u hu
 ·rcases hm u hu with rfl | hu
  ·exact h2
  ·exact h.sc u hu
 ·rcases hm u hu with rfl | hu
  ·exact h3
  ·exact h.nd u hu
 ·simp only [List.length_set] at hi hj;simp only [List.getElem_set] at hs ⊢;by_cases h6:a=i
  ·rw [if_pos h6] at hs;rw [if_neg (by omega)];exact h4 j hj (by omega) s hs
  ·rw [if_neg h6] at hs;by_cases h7:a=j
   ·rw [if_pos h7];exact fun hm=>h4 i hi (by omega) s hm hs
   ·rw [if_neg h7];exact h.dj i j hi hj hij s hs
 ·rcases hm u hu with rfl | hu
  ·exact h5
  ·exact h.ld u hu
theorem Qkq {p:Nf} {e:Nj} (h:YX p e=0):0<=e.Kind/\e.Kind<=6:=by
 unfold YX at h;by_cases h1:¬ (0<=e.Kind/\e.Kind<=6)
 ·rw [if_pos h1] at h;cases h
 ·omega
theorem Qwq {p:Nf} {e:Nj} (h:YX p e=0) (hk:e.Kind=2):0<=e.A/\e.A.toNat < p.Nc.length/\Y2 e.B=true:=by
 have h1:=Qkq h;unfold YX at h;rw [if_neg (by omega),if_pos hk] at h;cases hb:Qev p e.A with
 | false=>rw [hb] at h;cases h
 | true =>
  rw [hb] at h;cases hc:Y2 e.B with
  | false=>rw [hc] at h;cases h
  | true =>
   unfold Qev at hb;simp at hb;exact ⟨hb.1,by omega,rfl⟩
theorem Qfo {p:Nf} {e:Nj} (h:YX p e=0) (hk:e.Kind≠2):0<=e.A/\e.A.toNat < p.Na.length/\(e.Kind=0->YA p e.B=true)/\(e.Kind=1->0<=e.B/\e.B.toNat < p.Ni.length)/\(e.Kind≠0->e.Kind≠1->e.B=0):=by
 have h1:=Qkq h;unfold YX at h;rw [if_neg (by omega),if_neg hk] at h;cases hb:Qab p e.A with
 | false=>rw [hb] at h;cases h
 | true =>
  rw [hb,cond_true] at h;unfold Qab at hb;simp at hb;refine ⟨hb.1,by omega,fun h0=>?_,fun h0=>?_,fun h0 h2=>?_⟩
  ·rw [if_pos h0] at h;cases hc:YA p e.B with
   | true=>rfl
   | false=>rw [hc] at h;cases h
  ·rw [if_neg (by omega),if_pos h0] at h;cases hc:Qeo p e.B with
   | false=>rw [hc] at h;cases h
   | true=>unfold Qeo at hc;simp at hc;omega
  ·rw [if_neg h0,if_neg h2] at h;by_cases h3:e.B=0
   ·exact h3
   ·rw [if_neg h3] at h;cases h
theorem Qgt {x:Nh} {e:Nj} (h:e.A.toNat < x.Na.length):YJ x e=x.Na[e.A.toNat]:=by
 unfold YJ;rw [List.getElem?_eq_getElem h];rfl
theorem QBy {p:Nf} {e:Nj} (h:e.A.toNat < p.Nc.length):Qgq p e=p.Nc[e.A.toNat]:=by
 unfold Qgq;rw [List.getElem?_eq_getElem h];rfl
theorem Qsz {p:Nf} {e:Nj} (h:e.B.toNat < p.Ni.length):YD p e=p.Ni[e.B.toNat]:=by
 unfold YD;rw [List.getElem?_eq_getElem h];rfl
theorem Qty {p:Nf} (hp:PlantOk p) {x:Nh} (h:StateOk p x) {e:Nj} (he:YX p e=0) (hs:ZS p x e=0):StateOk p (Zo p x e):=by
  have hk:=Qkq he;unfold Zo;by_cases h2:e.Kind=2
  · rw [if_pos h2];obtain ⟨a0,a1,a2⟩:=Qwq he h2;unfold ZS at hs;rw [if_pos h2] at hs;have hn:ZB x (Qgq p e).Nq=false:=by
      cases hb:ZB x (Qgq p e).Nq with
      | false=>rfl
      | true=>rw [hb] at hs;cases hs
    rw [QBy a1] at hn;refine ⟨by simpa using h.sw,h.tr,fun n hn=>?_,h.cnt,h.un,h.sc,h.nd,h.dj,fun t ht k hk=>?_⟩
    · rcases List.mem_or_eq_of_mem_set hn with h3 | rfl
      · exact h.pos n h3
      · exact a2
    · obtain ⟨r,hr,h3,h4⟩:=leadsB_iff.1 (h.ld t ht k hk);refine leadsB_iff.2 ⟨r,hr,h3,QKb (fun hi hm=>?_) h4⟩;have h5:=Qod hn t ht;rcases List.mem_cons.1 hm with e1 | hm
      · rw [e1] at h5;exact h5 (List.getElem_mem _)
      · rw [List.mem_singleton.1 hm] at h5;exact h5 (List.getElem_mem _)
  rw [if_neg h2];obtain ⟨a0,a1,a2,a3,a4⟩:=Qfo he h2;have ha:e.A.toNat < x.Na.length:=by rw [h.tr];exact a1
  have ht:YJ x e∈x.Na:=by rw [Qgt ha];exact List.getElem_mem ha
  have hd:∀ j (hj:j < x.Na.length),j≠e.A.toNat->∀ s∈(YJ x e).Ng,s∉x.Na[j].Ng:=fun j hj hne s hs=>by
    rw [Qgt ha] at hs;exact h.dj _ j ha hj (by omega) s hs
  have hu:=h.un _ ht;have hsc:=h.sc _ ht;have hnd:=h.nd _ ht;have hld:=h.ld _ ht;unfold ZS at hs;rw [if_neg h2] at hs;unfold trX;generalize YJ x e=t at *
  by_cases h0:e.Kind=0
  · rw [if_pos h0] at hs;rw [if_pos h0];by_cases hc:t.Ng.length=0
    · rw [if_pos hc] at hs;have hn:ZB x e.B=false:=by
        cases hb:ZB x e.B with
        | false=>rfl
        | true=>rw [hb] at hs;cases hs
      refine Qgj h ha (.inr (by simp)) (fun s hs=>?_) (by simp) (fun j hj hne s hs hm=>?_) (fun k hk=>?_)
      · simp only [List.mem_singleton] at hs;subst hs;exact a2 h0
      · simp only [List.mem_singleton] at hs;subst hs;exact Qod hn _ (List.getElem_mem hj) hm
      · simp at hk
    · rw [if_neg hc] at hs;cases hs
  rw [if_neg h0] at hs;rw [if_neg h0];by_cases hc:t.Ng.length=0
  · rw [if_pos hc] at hs;cases hs
  rw [if_neg hc] at hs;have hu2:1<=t.Nr/\t.Nr<=t.Ng.length:=by
    rcases hu with ⟨h3,_⟩ | h3
    · rw [h3] at hc;exact absurd rfl hc
    · exact h3
  by_cases h1:e.Kind=1
  · rw [if_pos h1] at hs;rw [if_pos h1];obtain ⟨b0,b1⟩:=a3 h1;have hr:YD p e∈p.Ni:=by rw [Qsz b1];exact List.getElem_mem b1
    generalize YD p e=r at *
    by_cases h3:r.Nb.head?=t.Ng.getLast?
    · rw [if_pos h3] at hs;have hn:(r.Nb.drop 1).any (ZB x)=false:=by
        cases hb:(r.Nb.drop 1).any (ZB x) with
        | false=>rfl
        | true=>rw [hb] at hs;cases hs
      have hl:ZP p x.Nc r r.Nb=true:=by
        rw [hn] at hs;cases hb:ZP p x.Nc r r.Nb with
        | true=>rfl
        | false=>rw [hb] at hs;cases hs
      rw [List.any_eq_false] at hn;have hn2:∀ s∈r.Nb.drop 1,∀ u∈x.Na,s∉u.Ng:=fun s hs=>Qod (by have:=hn s hs;simpa using this)
      have h2r:=hp.r2 r hr;have hlast:∀ hi:t.Ng.length - 1 < t.Ng.length,∀ hj:0 < r.Nb.length,t.Ng[t.Ng.length - 1]=r.Nb[0]:=fun hi hj=>by
        rw [List.head?_eq_getElem?,List.getLast?_eq_getElem?,List.getElem?_eq_getElem hj,List.getElem?_eq_getElem hi] at h3;exact (Option.some.inj h3).symm
      refine Qgj h ha (.inr ?_) (fun s hs=>?_) ?_ (fun j hj hne s hs=>?_) (fun k hk=>?_)
      · simp only [List.length_append];omega
      · rcases List.mem_append.1 hs with h4 | h4
        · exact hsc s h4
        · exact hp.rs r hr s (List.mem_of_mem_drop h4)
      · show (t.Ng++r.Nb.drop 1).Nodup;rw [List.nodup_append];refine ⟨hnd,List.Nodup.sublist (List.drop_sublist _ _) (hp.rd r hr),fun s hs u hu e=>?_⟩;subst e;exact hn2 s hu t ht hs
      · rcases List.mem_append.1 hs with h4 | h4
        · exact hd j hj hne s h4
        · exact hn2 s h4 _ (List.getElem_mem hj)
      · simp only [List.length_append,List.length_drop] at hk;by_cases h5:k+1 < t.Ng.length
        · simp only [List.getElem_append,h5,dif_pos,show k < t.Ng.length by omega];exact hld k h5
        · have e2 : (t.Ng ++ r.Nb.drop 1)[k + 1]'(by simp only [List.length_append, List.length_drop]; omega) = r.Nb[k + 1 - t.Ng.length + 1]'(by omega) := by
            rw [List.getElem_append_right (by omega),List.getElem_drop];congr 1;omega
          have e1:(t.Ng++r.Nb.drop 1)[k]'(by simp only [List.length_append, List.length_drop];omega)=r.Nb[k+1 - t.Ng.length]'(by omega) := by
            by_cases h6:k+1=t.Ng.length
            · rw [List.getElem_append_left (show k < t.Ng.length by omega)];have:=hlast (by omega) (by omega);simp only [show k+1 - t.Ng.length=0 by omega,<-this];congr 1;omega
            · rw [List.getElem_append_right (by omega),List.getElem_drop];congr 1;omega
          rw [e1,e2];refine leadsB_iff.2 ⟨r,hr,pairB_iff.2 ⟨k+1 - t.Ng.length,by omega,rfl,rfl⟩,QKa hl fun s hs=>?_⟩;rcases List.mem_cons.1 hs with rfl | hs
          · exact List.getElem_mem _
          · rw [List.mem_singleton.1 hs];exact List.getElem_mem _
    · rw [if_neg h3] at hs;cases hs
  rw [if_neg h1] at hs;rw [if_neg h1];by_cases h4:e.Kind=4
  · rw [if_pos h4] at hs;rw [if_neg (by omega),if_pos h4];have hx:1 < t.Nr:=by
      by_cases h5:1 < t.Nr
      · exact h5
      · rw [if_neg h5] at hs;cases hs
    refine Qgj h ha (.inr ?_) (fun s hs=>hsc s (List.mem_of_mem_drop hs)) (List.Nodup.sublist (List.drop_sublist _ _) hnd) (fun j hj hne s hs=>hd j hj hne s (List.mem_of_mem_drop hs)) (fun k hk=>?_)
    · simp only [List.length_drop];omega
    · simp only [List.length_drop] at hk;simp only [List.getElem_drop];have:=hld (1+k) (by omega);exact this
  rw [if_neg h4] at hs;rw [show (if e.Kind=4 then (⟨t.Ng.drop 1,t.Nr - 1⟩:Nl) else if e.Kind=5 then ⟨t.Ng.take (t.Ng.length - 1),t.Nr⟩ else ⟨[],0⟩)=(if e.Kind=5 then ⟨t.Ng.take (t.Ng.length - 1),t.Nr⟩ else ⟨[],0⟩) from if_neg h4];by_cases h35:e.Kind=3\/e.Kind=5
  · rw [if_pos h35] at hs;have hx:t.Nr < t.Ng.length:=by
      by_cases h5:t.Nr < t.Ng.length
      · exact h5
      · rw [if_neg h5] at hs;cases hs
    by_cases h3:e.Kind=3
    · rw [if_pos h3];exact Qgj h ha (.inr ⟨by show 1<=t.Nr+1;omega,by show t.Nr+1<=(t.Ng.length:Int);omega⟩) hsc hnd hd hld
    · rw [if_neg h3,if_pos (by omega)];refine Qgj h ha (.inr ?_) (fun s hs=>hsc s (List.mem_of_mem_take hs)) (List.Nodup.sublist (List.take_sublist _ _) hnd) (fun j hj hne s hs=>hd j hj hne s (List.mem_of_mem_take hs)) (fun k hk=>?_)
      · simp only [List.length_take];omega
      · simp only [List.length_take] at hk;simp only [List.getElem_take];exact hld k (by omega)
  · rw [if_neg (by omega),if_neg (by omega)];exact Qgj h ha (.inl ⟨rfl,rfl⟩) (fun s hs=>by simp at hs) (by simp) (fun j hj hne s hs=>by simp at hs) (fun k hk=>by simp at hk)
end Go.Gw

end
section
set_option maxRecDepth 4096
namespace Go.Gw
open Go
attribute [local irreducible] loop
def chE (p:Nf) (x:Nh) (n:Nat) (t:Nl) (k:Nat) (s:Int):Int :=
 bif YA p s then (bif decide (s∈t.Ng.take k)||(x.Na.take n).any (fun o=>decide (s∈o.Ng)) then 17 else if k=0 then 0 else bif Qbg p x.Nc (t.Ng[k - 1]?.getD 0) s then 0 else 23) else 6
def Qbv (p:Nf) (x:Nh) (n:Nat) (t:Nl) (k:Nat):Int:=(t.Ng[k]?.map (chE p x n t k)).getD 0
def Qcn (t:Nl):Bool:=if t.Ng.length=0 then decide (t.Nr=0) else decide (1<=t.Nr)&&decide (t.Nr<=t.Ng.length)
def tsE (p:Nf) (x:Nh) (n:Nat) (t:Nl):Int:=bif Qcn t then (match XP (Qbv p x n t) t.Ng.length with | some k=>Qbv p x n t k | none=>0) else 3
def Qau (p:Nf) (x:Nh) (n:Nat):Int:=(x.Na[n]?.map (tsE p x n)).getD 0
def Qnz (p:Nf) (x:Nh):Int :=
 if x.Nc.length=p.Nc.length/\x.Na.length=p.Na.length then
  (bif x.Nc.all Y2&&Qcw x.Nk then (match XP (Qau p x) x.Na.length with | some k=>Qau p x k | none=>0) else 2) else 10
theorem tsE_zero {p:Nf} {x:Nh} {n:Nat} {t:Nl}:tsE p x n t=0↔Qcn t=true/\∀ k (hk:k < t.Ng.length),chE p x n t k t.Ng[k]=0:=by
 unfold tsE;cases hu:Qcn t with
 | false=>simp
 | true =>
  simp only [cond_true,true_and];have hg:∀ k (hk:k < t.Ng.length),Qbv p x n t k=chE p x n t k t.Ng[k]:=fun k hk=>Jl _ _ _ hk
  cases hf:XP (Qbv p x n t) t.Ng.length with
  | some k =>
   obtain ⟨h1,h2,_⟩:=Qbd hf;constructor
   ·intro h;exact absurd h h2
   ·intro h;exact absurd ((hg k h1).trans (h k h1)) h2
  | none=>exact ⟨fun _ k hk=>(hg k hk).symm.trans (Qho hf k hk),fun _=>rfl⟩
theorem chE_zero {p:Nf} {x:Nh} {n:Nat} {t:Nl} {k:Nat} {s:Int}:chE p x n t k s=0↔YA p s=true/\s∉t.Ng.take k/\(∀ o∈x.Na.take n,s∉o.Ng)/\(k≠0->Qbg p x.Nc (t.Ng[k - 1]?.getD 0) s=true):=by
  unfold chE;cases YA p s with
  | false=>simp
  | true =>
    simp only [cond_true,true_and];by_cases h1:s∈t.Ng.take k
    · simp [h1]
    by_cases h2:∀ o∈x.Na.take n,s∉o.Ng
    · have h3 : (x.Na.take n).any (fun o => decide (s ∈ o.Ng)) = false := by
        rw [List.any_eq_false];intro o ho hm;exact h2 o ho (of_decide_eq_true hm)
      rw [h3,decide_eq_false h1];by_cases hk:k=0
      · simp [hk];exact h2
      · simp only [Bool.or_false,cond_false,if_neg hk];cases Qbg p x.Nc (t.Ng[k - 1]?.getD 0) s with
        | false=>simp [hk]
        | true=>simp [h1];exact h2
    · have h3 : (x.Na.take n).any (fun o => decide (s ∈ o.Ng)) = true := by
        cases hb:(x.Na.take n).any (fun o=>decide (s∈o.Ng)) with
        | true=>rfl
        | false =>
          rw [List.any_eq_false] at hb;exact absurd (fun o ho hm=>hb o ho (decide_eq_true hm)) h2
      rw [h3,Bool.or_true];simp [h2]
theorem undB_iff {t:Nl}:Qcn t=true↔(t.Ng=[]/\t.Nr=0)\/(1<=t.Nr/\t.Nr<=t.Ng.length):=by
 unfold Qcn;by_cases h:t.Ng.length=0
 ·rw [if_pos h];have h2:t.Ng=[]:=List.length_eq_zero_iff.1 h;simp only [decide_eq_true_eq];constructor
  ·intro h3;exact .inl ⟨h2,h3⟩
  ·rintro (h3 | h3)
   ·exact h3.2
   ·omega
 ·rw [if_neg h];simp only [Bool.and_eq_true,decide_eq_true_eq];constructor
  ·intro h3;exact .inr h3
  ·rintro (h3 | h3)
   ·rw [h3.1] at h;exact absurd rfl h
   ·exact h3
theorem state_iff {p:Nf} {x:Nh}:Qnz p x=0↔StateOk p x:=by
  have hg:∀ k (hk:k < x.Na.length),Qau p x k=tsE p x k x.Na[k]:=fun k hk=>Jl _ _ _ hk
  unfold Qnz;constructor
  · intro h;by_cases h1:x.Nc.length=p.Nc.length/\x.Na.length=p.Na.length
    · rw [if_pos h1] at h;cases h2:x.Nc.all Y2&&Qcw x.Nk with
      | false=>rw [h2] at h;cases h
      | true =>
        rw [h2,cond_true] at h;rw [Bool.and_eq_true,List.all_eq_true] at h2;cases hf:XP (Qau p x) x.Na.length with
        | some k=>rw [hf] at h;exact absurd h (Qbd hf).2.1
        | none =>
          have hz:∀ n (hn:n < x.Na.length),Qcn x.Na[n]=true/\∀ k (hk:k < x.Na[n].Ng.length),chE p x n x.Na[n] k x.Na[n].Ng[k]=0:=fun n hn=>tsE_zero.1 ((hg n hn).symm.trans (Qho hf n hn))
          refine ⟨h1.1,h1.2,h2.1,h2.2,fun t ht=>?_,fun t ht s hs=>?_,fun t ht=>?_,fun i j hi hj hij s hs hm=>?_,fun t ht k hk=>?_⟩
          · obtain ⟨n,hn,rfl⟩:=List.getElem_of_mem ht;exact undB_iff.1 (hz n hn).1
          · obtain ⟨n,hn,rfl⟩:=List.getElem_of_mem ht;obtain ⟨k,hk,rfl⟩:=List.getElem_of_mem hs;exact (chE_zero.1 ((hz n hn).2 k hk)).1
          · obtain ⟨n,hn,rfl⟩:=List.getElem_of_mem ht;exact Qzl fun k hk=>(chE_zero.1 ((hz n hn).2 k hk)).2.1
          · rcases Nat.lt_or_gt_of_ne hij with h3 | h3
            · obtain ⟨k,hk,rfl⟩:=List.getElem_of_mem hm;exact (chE_zero.1 ((hz j hj).2 k hk)).2.2.1 _ (List.mem_take_iff_getElem.2 ⟨i,by omega,rfl⟩) hs
            · obtain ⟨k,hk,rfl⟩:=List.getElem_of_mem hs;exact (chE_zero.1 ((hz i hi).2 k hk)).2.2.1 _ (List.mem_take_iff_getElem.2 ⟨j,by omega,rfl⟩) hm
          · obtain ⟨n,hn,rfl⟩:=List.getElem_of_mem ht;have:=(chE_zero.1 ((hz n hn).2 (k+1) hk)).2.2.2 (by omega);rwa [Nat.add_sub_cancel,List.getElem?_eq_getElem (show k < x.Na[n].Ng.length by omega),Option.getD_some] at this
    · rw [if_neg h1] at h;cases h
  · intro h;rw [if_pos ⟨h.sw,h.tr⟩,show (x.Nc.all Y2&&Qcw x.Nk)=true by rw [Bool.and_eq_true,List.all_eq_true];exact ⟨h.pos,h.cnt⟩,cond_true];rw [QIk fun n hn=>by
      rw [hg n hn,tsE_zero];have ht:=List.getElem_mem hn;refine ⟨undB_iff.2 (h.un _ ht),fun k hk=>chE_zero.2 ⟨h.sc _ ht _ (List.getElem_mem hk),Qzm (h.nd _ ht) hk,fun o ho hm=>?_,fun hk0=>?_⟩⟩
      · obtain ⟨i,hi,rfl⟩:=List.mem_take_iff_getElem.1 ho;exact h.dj i n (by omega) hn (by omega) _ hm (List.getElem_mem hk)
      · rw [List.getElem?_eq_getElem (show k - 1 < x.Na[n].Ng.length by omega),Option.getD_some];have:=h.ld _ ht (k - 1) (by omega);simp only [show k - 1+1=k by omega] at this;exact this]
end Go.Gw

end
section
set_option maxRecDepth 4096
namespace Go.Gw
open Go
attribute [local irreducible] loop
theorem QJb {a b:List Int} (ha:0 < a.length) (hb:0 < b.length):decide (a[0]=b[b.length - 1])=decide (a.head?=b.getLast?):=by
 rw [List.head?_eq_getElem?,List.getLast?_eq_getElem?,List.getElem?_eq_getElem ha,List.getElem?_eq_getElem (show b.length - 1 < b.length by omega)];simp only [Option.some.injEq]
theorem Qvp {p:Nf} (hp:PlantOk p) {x:Nh} (h:StateOk p x) {e:Nj} (he:YX p e=0) :
    Runs (Qfw (some ⟨p,x⟩) e) fun r=>r.2=ZS p x e/\(ZS p x e=0->r.1=some ⟨p,Zo p x e⟩):=by
  have hs:=h.s hp;have hw4:=hp.w4;have ht3:=hp.t3;have hkd:=Qkq he;have hsl:=h.sw;have htl:=h.tr;unfold Qfw;by_cases h2:e.Kind=2
  · obtain ⟨a0,a1,a2⟩:=Qwq he h2;have e1:ZS p x e=(bif ZB x (Qgq p e).Nq then 17 else 0):=by unfold ZS;rw [if_pos h2]
    have e2:Zo p x e=⟨x.Nc.set e.A.toNat e.B,x.Na,x.Nk⟩:=by unfold Zo;rw [if_pos h2]
    rw [e1,e2,QBy a1,decide_eq_true h2,cond_true,Qv];show Runs (Option.bind (idx p.Nc e.A) _) _;rw [Qhr a0 a1,Qv,Quc p hs _ (by simp),Qv];simp only [List.any_cons,List.any_nil,Bool.or_false];cases ZB x p.Nc[e.A.toNat].Nq with
    | true=>exact Runs.some ⟨rfl,fun hh=>by cases hh⟩
    | false =>
      simp only [cond_false];rw [Qpx _ (by show x.Nc.length < _;omega),Qv];show Runs (Option.bind (idx x.Nc e.A) _) _;rw [Qhr a0 (by omega),Qv];exact Runs.some ⟨rfl,fun _=>rfl⟩
  obtain ⟨a0,a1,a2,a3,a4⟩:=Qfo he h2;have ha:e.A.toNat < x.Na.length:=by omega
  have htm:YJ x e∈x.Na:=by rw [Qgt ha];exact List.getElem_mem ha
  have hcl:=h.len htm;have hs8:=hp.s8;have hu:=h.un _ htm;have e2:Zo p x e=⟨x.Nc,x.Na.set e.A.toNat (trX p (YJ x e) e),x.Nk⟩:=by unfold Zo;rw [if_neg h2]
  have hnx:=fun c u=>QMj p x a0 ha (by omega) c u
  rw [e2,decide_eq_false h2,cond_false,Qv];show Runs (Option.bind (idx x.Na e.A) _) _;rw [Qhr a0 ha,Qv,<-Qgt ha];unfold ZS trX;simp only [if_neg h2];generalize YJ x e=t at *
  by_cases h0:e.Kind=0
  · simp only [if_pos h0,decide_eq_true h0,cond_true];rw [Yx,Qv,Quc p hs _ (by simp),Qv,Yx,Qv,ZE _ (by simp),Qv,Qv];simp only [List.any_cons,List.any_nil,Bool.or_false,Qwz];by_cases hc:t.Ng.length=0
    · simp only [hc,Int.natCast_zero,decide_true,cond_true,ne_eq,not_true_eq_false,if_false,if_true];cases ZB x e.B with
      | true=>exact Runs.some ⟨rfl,fun hh=>by cases hh⟩
      | false =>
        simp only [Bool.not_false,cond_true,decide_true,Bool.not_true,cond_false];rw [hnx,Qv];exact Runs.some ⟨rfl,fun _=>rfl⟩
    · rw [if_neg hc,decide_eq_false (show ¬ (t.Ng.length:Int)=0 by omega)];exact Runs.some ⟨rfl,fun hh=>by cases hh⟩
  simp only [if_neg h0,decide_eq_false h0,cond_false];by_cases hc:t.Ng.length=0
  · rw [decide_eq_true (show (t.Ng.length:Int)=0 by omega),if_pos hc];exact Runs.some ⟨rfl,fun hh=>by cases hh⟩
  rw [decide_eq_false (show ¬ (t.Ng.length:Int)=0 by omega),cond_false,Yx,Qv,if_neg hc];have hu2:1<=t.Nr/\t.Nr<=t.Ng.length:=by
    rcases hu with ⟨h3,_⟩ | h3
    · rw [h3] at hc;exact absurd rfl hc
    · exact h3
  by_cases h1:e.Kind=1
  · simp only [if_pos h1,decide_eq_true h1,cond_true];obtain ⟨b0,b1⟩:=a3 h1;rw [show (⟨p,x⟩:Nm).Nw.Ni=p.Ni from rfl,Qhr b0 b1,Qv,<-Qsz b1];have hr:YD p e∈p.Ni:=by rw [Qsz b1];exact List.getElem_mem b1
    generalize YD p e=r at *
    have hr2:=hp.r2 r hr;have hr8:=hp.r8 r hr;have hrn:=hp.rn r hr;rw [Qwg (by omega),Qv,show (0:Int)=((0:Nat):Int) from rfl,Xu (show 0 < r.Nb.length by omega),Qv,
      show w64 ((t.Ng.length:Int) - 1)=((t.Ng.length - 1:Nat):Int) by rw [Xw (by omega)];omega,Xu (show t.Ng.length - 1 < t.Ng.length by omega),Qv,Yx,Qv,
      Quc p hs _ (by simp;omega),Qv,Yx,Qv,Qxp hrn hsl (by omega) (by omega),Qv,Yx,Qv,ZE _ (by simp),Qv,QJb (by omega) (by omega),Qfr]
    by_cases h3:r.Nb.head?=t.Ng.getLast?
    · simp only [h3,decide_true,cond_true,Int.natCast_zero,ne_eq,not_true_eq_false,if_false,if_true];cases hb:(r.Nb.drop 1).any (ZB x) with
      | true=>exact Runs.some ⟨rfl,fun hh=>by cases hh⟩
      | false =>
        cases hl:ZP p x.Nc r r.Nb with
        | false=>exact Runs.some ⟨rfl,fun hh=>by cases hh⟩
        | true =>
          simp only [Bool.not_false,cond_true,Int.natCast_zero,not_true_eq_false,if_false,decide_true,Bool.not_true,cond_false];rw [QFn _ _ (by omega) (by simp;omega),Qv,hnx,Qv];exact Runs.some ⟨rfl,fun _=>rfl⟩
    · simp only [h3,decide_false,cond_false,if_false];exact Runs.some ⟨rfl,fun hh=>by cases hh⟩
  simp only [if_neg h1,decide_eq_false h1,cond_false];by_cases h3:e.Kind=3
  · simp only [if_pos h3,decide_eq_true h3,cond_true];rw [if_neg (by omega),if_pos (.inl h3),hnx,Qv,Xw (by omega)];by_cases h5:t.Nr < t.Ng.length
    · rw [if_pos h5,decide_eq_true h5];exact Runs.some ⟨rfl,fun _=>rfl⟩
    · rw [if_neg h5,decide_eq_false h5];exact Runs.some ⟨rfl,fun hh=>by cases hh⟩
  simp only [if_neg h3,decide_eq_false h3,cond_false];by_cases h4:e.Kind=4
  · simp only [if_pos h4,decide_eq_true h4,cond_true];rw [Qwg (by omega),Qv,hnx,Qv,Yx,Qv,Xw (by omega)];by_cases h5:1 < t.Nr
    · rw [if_pos h5,decide_eq_true h5];exact Runs.some ⟨rfl,fun _=>rfl⟩
    · rw [if_neg h5,decide_eq_false h5];exact Runs.some ⟨rfl,fun hh=>by cases hh⟩
  simp only [if_neg h4,decide_eq_false h4,cond_false];by_cases h5:e.Kind=5
  · simp only [if_pos h5,decide_eq_true h5,cond_true];rw [if_pos (.inr h5),show w64 ((t.Ng.length:Int) - 1)=((t.Ng.length - 1:Nat):Int) by rw [Xw (by omega)];omega,Qcy (by omega),Qv,hnx,Qv];by_cases h6:t.Nr < t.Ng.length
    · rw [if_pos h6,decide_eq_true h6];exact Runs.some ⟨rfl,fun _=>rfl⟩
    · rw [if_neg h6,decide_eq_false h6];exact Runs.some ⟨rfl,fun hh=>by cases hh⟩
  simp only [if_neg h5,decide_eq_false h5,cond_false];rw [if_neg (by omega),hnx,Qv,Yx,Qv];by_cases h6:t.Ng.length=1
  · rw [if_pos h6,decide_eq_true (by omega)];exact Runs.some ⟨rfl,fun _=>rfl⟩
  · rw [if_neg h6,decide_eq_false (by omega)];exact Runs.some ⟨rfl,fun hh=>by cases hh⟩
/-! ### The beginning, copies -/
def Qbt (p:Nf):Nh:=⟨List.replicate p.Nc.length 0,List.replicate p.Na.length ⟨[],0⟩,0⟩
theorem Qym {α:Type} (n:Nat) (z:α) (h:n<=1000):mk (n:Int) z=some (List.replicate n z):=by
 unfold mk;rw [if_pos (by omega),Int.toNat_natCast]
theorem QEs {p:Nf} (h:PlantS p):Qhx p=some (Qbt p):=by
 have h1:=h.sw;have h2:=h.tr;unfold Qhx;rw [Qym _ _ (by omega),Qv,Qym _ _ (by omega),Qv];rfl
theorem Qpq {p:Nf}:StateOk p (Qbt p):=by
 refine ⟨by simp [Qbt],by simp [Qbt],fun n hn=>?_,by rfl,fun t ht=>?_,fun t ht s hs=>?_,fun t ht=>?_,fun i j hi hj _ s hs=>?_,fun t ht k hk=>?_⟩
 ·rw [(List.mem_replicate.1 hn).2];rfl
 ·rw [(List.mem_replicate.1 ht).2];exact .inl ⟨rfl,rfl⟩
 ·rw [(List.mem_replicate.1 ht).2] at hs;cases hs
 ·rw [(List.mem_replicate.1 ht).2];exact List.nodup_nil
 ·simp only [Qbt,List.getElem_replicate] at hs;cases hs
 ·rw [(List.mem_replicate.1 ht).2] at hk;simp at hk
theorem QCo (p:Nf) {x:Nh} (h:StateS x):Qic (some ⟨p,x⟩)=some x:=by
 have h1:=h.sw;have h2:=h.tr;unfold Qic;rw [Qv];show Option.bind (Option.bind (Qdi x.Nc) _) _=_;rw [Qpx _ (by omega),Qv,Qv];simp only [Qv];have hl:=Qii (step:=Qib ⟨p,x⟩) (o:=x.Na) (fun k=>((k:Int),x.Na.take k)) x.Na.length (fun k hk=>by
  unfold Qib;show (bif decide ((k:Int) < (x.Na.length:Int)) then Option.bind (idx x.Na (k:Int)) _ else _)=_;rw [XZ hk,cond_true,Xu hk,Qv,Qpx _ (by have:=h.ch _ (List.getElem_mem hk);omega),Qv,JO (by simp;omega),Qv,XI k (by omega)];show some (Sum.inl (_,x.Na.take k++[x.Na[k]]))=_;have:=Qub x.Na id k hk;simp only [List.map_id,id_eq] at this;rw [this]) (by
  unfold Qib;show (bif decide ((x.Na.length:Int) < (x.Na.length:Int)) then _ else _)=_;rw [X2,List.take_length];rfl)
 have hl2:loop (Qib ⟨p,x⟩) (0,([]:List Nl))=some x.Na:=hl;rw [hl2];rfl
end Go.Gw

end
section
set_option maxRecDepth 4096
namespace Go.Gw
open Go
attribute [local irreducible] loop
def Qfd:Nh:=⟨[],[],0⟩
def ZN (p:Nf) (x:Nh) (e:Nj):Int:=if YX p e=0 then ZS p x e else YX p e
def evs (p:Nf):Nh->Nat->List Nj->Nh⊕(Nat×Int)
 | x,_,[]=>.inl x
 | x,k,e::l=>if ZN p x e=0 then evs p (Zo p x e) (k+1) l else .inr (k,ZN p x e)
theorem Qqi {p:Nf} {x:Nh} {k:Nat} {e:Nj} {l:List Nj}:evs p x k (e::l)=if ZN p x e=0 then evs p (Zo p x e) (k+1) l else .inr (k,ZN p x e):=rfl
theorem Qqf {p:Nf} (hp:PlantOk p) {x:Nh} (h:StateOk p x) {e:Nj} (he:ZN p x e=0):YX p e=0/\ZS p x e=0/\StateOk p (Zo p x e):=by
 unfold ZN at he;by_cases h1:YX p e=0
 ·rw [if_pos h1] at he;exact ⟨h1,he,Qty hp h h1 he⟩
 ·rw [if_neg h1] at he;exact absurd he h1
theorem Qqj {p:Nf} (hp:PlantOk p):∀ (l:List Nj) {x y:Nh} {k:Nat},StateOk p x->evs p x k l=.inl y->StateOk p y
 | [],x,y,k,h,he=>by cases he;exact h
 | e::l,x,y,k,h,he=>by
  rw [Qqi] at he;by_cases h1:ZN p x e=0
  ·rw [if_pos h1] at he;exact Qqj hp l (Qqf hp h h1).2.2 he
  ·rw [if_neg h1] at he;cases he
theorem QAh {p:Nf} (hS:PlantS p) (hp:PlantOk p) (l:List Nj) (hl:l.length < 1000):∀ (m:List Nj) (k:Nat) (x:Nh),m=l.drop k->k<=l.length->StateOk p x ->
  loop (Qhv l p) (some ⟨p,x⟩,(k:Int))=some (match evs p x k m with | .inl y=>.inr (some ⟨p,y⟩) | .inr (i,c)=>.inl (Qfd,(i:Int),c))
 | [],k,x,hm,hk,h=>by
  have:k=l.length:=by
   have:=congrArg List.length hm;simp at this;omega
  subst this;refine Qcd ?_;unfold Qhv;simp only [X2];rfl
 | e::m,k,x,hm,hk,h=>by
  have hlt:k < l.length:=by
   have:=congrArg List.length hm;simp at this;omega
  rw [List.drop_eq_getElem_cons hlt] at hm;obtain ⟨he,hm⟩:=List.cons.inj hm;have st:Qhv l p (some ⟨p,x⟩,(k:Int))=if ZN p x e=0 then some (.inl (some ⟨p,Zo p x e⟩,((k+1:Nat):Int))) else some (.inr (.inl (Qfd,(k:Int),ZN p x e))):=by
   unfold Qhv ZN;simp only [XZ hlt,cond_true,Xu hlt,Qv,<-he,Qwr hS];by_cases h1:YX p e=0
   ·rw [if_pos h1,decide_eq_true h1,cond_true];obtain ⟨r,hr,h2,h3⟩:=Qvp hp h h1;rw [hr,Qv,Qv,h2];by_cases h4:ZS p x e=0
    ·rw [if_pos h4,h3 h4,decide_eq_true h4,XI k (by omega)];rfl
    ·rw [if_neg h4,decide_eq_false h4];rfl
   ·rw [if_neg h1,decide_eq_false h1,if_neg h1,cond_false,Qv];show (bif !decide (YX p e=0) then _ else _)=_;rw [decide_eq_false h1];rfl
  rw [Qqi];by_cases h1:ZN p x e=0
  ·rw [if_pos h1] at st ⊢;rw [Qcc st];exact QAh hS hp l hl m (k+1) _ hm (by omega) (Qqf hp h h1).2.2
  ·rw [if_neg h1] at st ⊢;exact Qcd st
def Qsv (p:Nf) (l:List Nj):Nh×Int×Int :=
 if (ZG p).2=0 then (if l.length<=200 then (match evs p (Qbt p) 0 l with | .inl y=>(y,0,0) | .inr (i,c)=>(Qfd,(i:Int),c)) else (Qfd,0,8)) else (Qfd,0,(ZG p).2)
theorem QRa {p:Nf} (hS:PlantS p) (l:List Nj) (hl:l.length < 1000):Qhw p l=some (Qsv p l):=by
 unfold Qhw Qsv;rw [Qsq hS,Qv,Yx,Qv,ZE _ (by simp),Qv,Qwz];by_cases h1:(ZG p).2=0
 ·have hp:=Qmm h1;simp only [h1,ne_eq,not_true_eq_false,if_false,if_true];by_cases h2:l.length<=200
  ·rw [if_pos h2,decide_eq_true (show (l.length:Int)<=200 by omega)];simp only [cond_true,decide_true,Bool.not_true,cond_false];rw [QEs hS,Qv];have:=QAh hS hp l hl l 0 (Qbt p) rfl (by omega) Qpq;simp only [Int.natCast_zero] at this;rw [this];cases hE:evs p (Qbt p) 0 l with
   | inl y =>
    simp only [Qv,Xx];rw [QCo p ((Qqj hp l Qpq hE).s hp),Qv]
   | inr q=>rfl
  ·rw [if_neg h2,decide_eq_false (show ¬ (l.length:Int)<=200 by omega)];rfl
 ·simp only [h1,ne_eq,not_false_eq_true,if_true,if_false,decide_false,Bool.not_false,cond_true];rfl
end Go.Gw

end
section
set_option maxRecDepth 4096
namespace Go.Gw
open Go
attribute [local irreducible] loop
end Go.Gw

end
section
set_option maxRecDepth 4096
namespace Go.Gw
open Go
attribute [local irreducible] loop
theorem QAi {p:Nf} {x:Nh} {e:Nj} (hk:e.Kind=1) (h:ZS p x e=0) :
  (YJ x e).Ng.length≠0/\(YD p e).Nb.head?=(YJ x e).Ng.getLast?/\(∀ s∈(YD p e).Nb.drop 1,ZB x s=false)/\ZP p x.Nc (YD p e) (YD p e).Nb=true:=by
 unfold ZS at h;rw [if_neg (by omega),if_neg (by omega)] at h;by_cases hc:(YJ x e).Ng.length=0
 ·rw [if_pos hc] at h;cases h
 rw [if_neg hc,if_pos hk] at h;by_cases h3:(YD p e).Nb.head?=(YJ x e).Ng.getLast?
 ·rw [if_pos h3] at h;cases hb:((YD p e).Nb.drop 1).any (ZB x) with
  | true=>rw [hb] at h;cases h
  | false =>
   rw [hb] at h;cases hl:ZP p x.Nc (YD p e) (YD p e).Nb with
   | false=>rw [hl] at h;cases h
   | true =>
    rw [List.any_eq_false] at hb;exact ⟨hc,h3,fun s hs=>by have:=hb s hs;simpa using this,rfl⟩
 ·rw [if_neg h3] at h;cases h
theorem QUz {x:Nh} {a:Nat} {t:Nl} {e:Nj}:YJ ⟨x.Nc,x.Na.set a t,x.Nk⟩ e=if a=e.A.toNat/\a < x.Na.length then t else YJ x e:=by
 unfold YJ;simp only [List.getElem?_set];by_cases h:a=e.A.toNat
 ·subst h;by_cases h2:e.A.toNat < x.Na.length
  ·simp [h2]
  ·simp [h2]
 ·simp [h]
theorem QVb {p:Nf} (hp:PlantOk p) {x:Nh} (h:StateOk p x) {a b:Nj} (ka:a.Kind=1) (kb:b.Kind=1) (hab:a.A≠b.A) (ea:YX p a=0) (eb:YX p b=0) (sa:ZS p x a=0)
  {s:Int} (h1:s∈(YD p a).Nb) (h2:s∈(YD p b).Nb):ZS p (Zo p x a) b≠0:=by
 intro sb;have hy:=Qty hp h ea sa;obtain ⟨a0,a1,_,a3,_⟩:=Qfo ea (by omega);obtain ⟨b0,b1,_,b3,_⟩:=Qfo eb (by omega);obtain ⟨ca,cl,_,_⟩:=QAi ka sa;obtain ⟨da,dl,dn,_⟩:=QAi kb sb;have hx:x.Na.length=p.Na.length:=h.tr;have hyl:(Zo p x a).Na.length=p.Na.length:=hy.tr;have e1:YJ (Zo p x a) a=⟨(YJ x a).Ng++(YD p a).Nb.drop 1,(YJ x a).Nr⟩:=by
  unfold Zo;rw [if_neg (by omega),QUz,if_pos ⟨rfl,by omega⟩];unfold trX;rw [if_neg (by omega),if_pos ka]
 have hsa:s∈(YJ (Zo p x a) a).Ng:=by
  rw [e1];show s∈(YJ x a).Ng++(YD p a).Nb.drop 1;cases hr:(YD p a).Nb with
  | nil=>rw [hr] at h1;cases h1
  | cons r0 rs =>
   rw [hr] at h1 cl;rcases List.mem_cons.1 h1 with rfl | h3
   ·refine List.mem_append_left _ (List.mem_of_getLast? ?_);rw [<-cl];rfl
   ·exact List.mem_append_right _ h3
 have ha:a.A.toNat < (Zo p x a).Na.length:=by omega
 have hb:b.A.toNat < (Zo p x a).Na.length:=by omega
 rw [Qgt ha] at hsa;cases hr:(YD p b).Nb with
 | nil=>rw [hr] at h2;cases h2
 | cons r0 rs =>
  rw [hr] at h2 dl dn;rcases List.mem_cons.1 h2 with rfl | h3
  ·have hsb:s∈(YJ (Zo p x a) b).Ng:=List.mem_of_getLast? (by rw [<-dl];rfl);rw [Qgt hb] at hsb;exact hy.dj _ _ ha hb (by omega) s hsa hsb
  ·have:=dn s h3;exact Qod this _ (List.getElem_mem ha) hsa
end Go.Gw

end
section
set_option maxRecDepth 4096
namespace Go.Gw
open Go
attribute [local irreducible] loop
end Go.Gw

end
section
set_option maxRecDepth 4096
namespace Go.Gw
open Go
attribute [local irreducible] loop
theorem Qqn (l:List Int) (v:Int) (hl:l.length < 1000000):Qfi l v=some (decide (v∈l)):=by
 unfold Qfi;rw [Zt l (fun x=>decide (x=v)) (fun _ _=>true),Qv]
 ·rcases JW (p:=fun x=>decide (x=v)) (res:=fun _ _=>true) l 0 with ⟨k1,k2⟩ | ⟨j,x,k1,k2,k3⟩
  ·rw [k1,<-Qvm,k2];rfl
  ·rw [k1,<-Qvm,k3];rfl
 ·intro k hk;unfold Qpm;rw [XZ hk,Xu hk,XI k (by omega)];rfl
 ·unfold Qpm;rw [X2];rfl
theorem QPb (l:List ByteArray) (s:ByteArray) (hl:l.length < 1000000):Qmw l s=some (Qbf (fun x=>decide (x=s)) l):=by
 unfold Qmw Qbf;rw [Zt l (fun x=>decide (x=s)) (fun k _=>(k:Int)),Qv,Qeu]
 ·intro k hk;unfold Qsu;rw [XZ hk,Xu hk,XI k (by omega)];rfl
 ·unfold Qsu;rw [X2];rfl
theorem Qyj (l:List ByteArray) (s:ByteArray):(l.any fun x=>decide (x=s))=Zh l s:=by
 unfold Zh;congr 1;funext x;exact decide_eq_decide.2 eq_comm
theorem Qyk {α:Type} (f:α->ByteArray) (l:List α) (s:ByteArray):(l.any fun x=>decide (f x=s))=Zh (l.map f) s:=by
 rw [<-Qyj,List.any_map];rfl
theorem QAc (l:List ByteArray) (hl:l.length < 1000):Qiu l=some (match XP (Zi l) l.length with | some i=>((i:Int),Zi l i) | none=>(0,0)):=by
 unfold Qiu;have key:loop (Qit l) 0=_:=Qbh (step:=Qit l) (fun k=>(k:Int)) l.length (Zi l) (fun i e=>((i:Int),e)) () (fun k hk _=>by
  have hs:Zi l k=ZF l[k] (l.take k):=Jl _ _ _ hk;rw [hs];unfold Qit ZF;rw [XZ hk,cond_true,Xu hk,Qv,Qpj,Qv];cases Qan l[k]
  ·rfl
  ·simp only [Bool.not_true,cond_false,Qv,cond_true];rw [Qcy (by omega),Qv,QPb _ _ (by simp;omega),Qv,Qqr,Qyj,XI k (by omega)];cases Zh (l.take k) l[k]<;>rfl) (fun _=>by
  unfold Qit;rw [X2];rfl)
 rw [key,Qv];cases XP (Zi l) l.length<;>rfl
theorem Qtx {α ρ:Type} {step:Int->Option (Int⊕(ρ⊕Unit))} (xs:List α) (n:Nat) (hn:n<=xs.length) (p:α->Bool) (c:ρ)
  (hs:∀ k (hk:k < xs.length),k < n->step (k:Int)=(bif p xs[k] then some (.inr (.inl c)) else some (.inl ((k+1:Nat):Int))))
  (he:step (n:Int)=some (.inr (.inr ()))):loop step 0=some (if (xs.take n).any p=true then .inl c else .inr ()):=by
 have hlen:(xs.take n).length=n:=by simp;omega
 rw [Zt (xs.take n) p (fun _ _=>c) (fun k hk=>by
  rw [hlen] at hk;rw [hs k (by omega) hk];simp only [List.getElem_take]) (by rw [hlen];exact he)]
 rcases JW (p:=p) (res:=fun _ _=>c) (xs.take n) 0 with ⟨k1,k2⟩ | ⟨j,x,k1,k2,k3⟩
 ·rw [k1,k2];rfl
 ·rw [k1,k3];rfl
theorem QQp {p:Nf} (h:PlantS p) (k:Nat) (hk:k < p.Nc.length):Qnd p k=some (ZJ p k):=by
 have h1:=h.sw;have h2:=h.se;have hs:ZJ p k=swE p k p.Nc[k]:=Jl _ _ _ hk;have l0:loop (Qnb p.Nc[k] (k:Int) p) 0=some (if (p.Nc.take k).any (fun o=>decide (o.Name=p.Nc[k].Name))=true then .inl 5 else .inr ()) :=
  Qtx p.Nc k (by omega) _ _ (fun j hj hjk=>by
   unfold Qnb;rw [XZ hjk,cond_true,Xu hj,Qv,XI j (by omega)]) (by
   unfold Qnb;rw [X2];rfl)
 have l1:loop (Qnc p.Nc[k] (k:Int) p) 0=some (if (p.Nc.take k).any (fun o=>decide (o.Nq=p.Nc[k].Nq))=true then .inl 26 else .inr ()) :=
  Qtx p.Nc k (by omega) _ _ (fun j hj hjk=>by
   unfold Qnc;rw [XZ hjk,cond_true,Xu hj,Qv,XI j (by omega)]) (by
   unfold Qnc;rw [X2];rfl)
 rw [hs];unfold Qnd swE swX ZF;rw [Xu hk,Qv,Qpj,Qv,l0,l1,Qyk (fun o:Nt=>o.Name),show Jt p.Nc[k].Nq 0 (w64 ((p.Nb.length:Int) - 1))=some (YA p p.Nc[k].Nq) by rw [Qcv,Xw (by omega)];rfl];cases Qan p.Nc[k].Name
 ·rfl
 ·cases Zh ((p.Nc.take k).map (·.Name)) p.Nc[k].Name
  ·cases YA p p.Nc[k].Nq
   ·rfl
   ·cases (p.Nc.take k).any (fun o=>decide (o.Nq=p.Nc[k].Nq))<;>rfl
  ·rfl
theorem QAa (n:Int):Jt n 0 1=some (Y2 n):=by
 rw [Qcv];congr 1;unfold Y2;rw [Bool.eq_iff_iff];simp only [Bool.and_eq_true,Bool.or_eq_true,decide_eq_true_eq];omega
theorem QQn {p:Nf} (h:PlantS p) (k:Nat) (hk:k < p.Ni.length):Qna p k=some (ZH p k):=by
 have h1:=h.ro;have h2:=h.se;have h3:=h.sw;obtain ⟨_,hr,hn⟩:=h.rn _ (List.getElem_mem hk);have hs:ZH p k=rtE p k p.Ni[k]:=Jl _ _ _ hk;have l0:loop (Qmx p.Ni[k] p (k:Int)) 0=some (if (p.Ni.take k).any (fun o=>decide (o.Name=p.Ni[k].Name))=true then .inl 5 else .inr ()) :=
  Qtx p.Ni k (by omega) _ _ (fun j hj hjk=>by
   unfold Qmx;rw [XZ hjk,cond_true,Xu hj,Qv,XI j (by omega)]) (by
   unfold Qmx;rw [X2];rfl)
 rw [hs];unfold Qna rtE;rw [Xu hk,Qv,Qpj,Qv,l0,Qyk (fun o:Nn=>o.Name)];generalize p.Ni[k]=r at hr hn ⊢;have l1:loop (Qmy r p) 0=some (match XP (JF p r) r.Nb.length with | some i=>.inl (JF p r i) | none=>.inr ()) :=
  Qbh (fun k=>(k:Int)) r.Nb.length (JF p r) (fun _ e=>e) () (fun k hk _=>by
   have hs:JF p r k=rsE p r k r.Nb[k]:=Jl _ _ _ hk;rw [hs];unfold Qmy rsE;rw [XZ hk,cond_true,Xu hk,Qv,show Jt r.Nb[k] 0 (w64 ((p.Nb.length:Int) - 1))=some (YA p r.Nb[k]) by rw [Qcv,Xw (by omega)];rfl,Qv,Qcy (by omega),Qv,Qv,Qqn _ _ (by simp;omega),Qv,XI k (by omega)];cases YA p r.Nb[k]<;>cases decide (r.Nb[k]∈r.Nb.take k)<;>rfl) (fun _=>by
   unfold Qmy;rw [X2];rfl)
 have l2:r.Nu.length=p.Nc.length->loop (Qmz r p) 0=some (Yv (Qao r) (fun _ _=>(2:Int)) 0 (r.Nu.zip p.Nc)):=fun he =>
  Zt (r.Nu.zip p.Nc) _ _ (fun k hk=>by
   rw [Qoy he] at hk;unfold Qmz;rw [XZ hk,cond_true,Xu (show k < p.Nc.length by omega),Qv,Qqn _ _ (by omega),Qv,Xu hk,XI k (by omega)];simp only [List.getElem_zip,Qao,Qv,QAa];cases decide (p.Nc[k].Nq∈r.Nb)<;>rfl) (by
   rw [Qoy he];unfold Qmz;rw [X2];rfl)
 unfold ZF;cases Qan r.Name
 ·rfl
 ·cases Zh ((p.Ni.take k).map (·.Name)) r.Name
  ·simp only [Bool.not_true,cond_false,cond_true,Qv,Xx,if_true,Bool.false_eq_true,if_false];unfold rtX;by_cases h4:r.Nb.length < 2
   ·rw [if_pos h4,decide_eq_true (show (r.Nb.length:Int) < 2 by omega)];rfl
   rw [if_neg h4,decide_eq_false (show ¬ (r.Nb.length:Int) < 2 by omega)];by_cases h5:p.Nb.length < r.Nb.length
   ·rw [if_pos h5,decide_eq_true (show (p.Nb.length:Int) < r.Nb.length by omega)];rfl
   rw [if_neg h5,decide_eq_false (show ¬ (p.Nb.length:Int) < r.Nb.length by omega),l1];simp only [cond_false,Qv];cases XP (JF p r) r.Nb.length with
   | some i=>rfl
   | none =>
    simp only [Xx];by_cases h6:r.Nu.length=p.Nc.length
    ·rw [if_pos h6,decide_eq_true (show (r.Nu.length:Int)=p.Nc.length by omega),Bool.not_true,cond_false,l2 h6,Qv];rcases JW (p:=Qao r) (res:=fun _ _=>(2:Int)) (r.Nu.zip p.Nc) 0 with ⟨k1,k2⟩ | ⟨j,x,k1,k2,k3⟩
     ·rw [k1,k2];rfl
     ·rw [k1,k3];rfl
    ·rw [if_neg h6,decide_eq_false (show ¬ (r.Nu.length:Int)=p.Nc.length by omega)];rfl
  ·rfl
theorem QQl {p:Nf} (h:PlantS p):Qmq p=some (ZG p):=by
  have h3:=h.sw;have h4:=h.ro;have l0:loop (Qmo p) 0=some (match XP (ZJ p) p.Nc.length with | some i=>.inl (Np.mk 3 i,ZJ p i) | none=>.inr ()) :=
    Qbh (fun k=>(k:Int)) p.Nc.length (ZJ p) (fun i e=>(Np.mk 3 i,e)) () (fun k hk _=>by
      unfold Qmo;rw [XZ hk,cond_true,QQp h k hk,Qv,XI k (by omega)];by_cases h1:ZJ p k=0
      · rw [if_pos h1,decide_eq_true h1];rfl
      · rw [if_neg h1,decide_eq_false h1];rfl) (fun _=>by
      unfold Qmo;rw [X2];rfl)
  have l1:loop (Qmp p) 0=some (match XP (ZH p) p.Ni.length with | some i=>.inl (Np.mk 4 i,ZH p i) | none=>.inr ()) :=
    Qbh (fun k=>(k:Int)) p.Ni.length (ZH p) (fun i e=>(Np.mk 4 i,e)) () (fun k hk _=>by
      unfold Qmp;rw [XZ hk,cond_true,QQn h k hk,Qv,XI k (by omega)];by_cases h1:ZH p k=0
      · rw [if_pos h1,decide_eq_true h1];rfl
      · rw [if_neg h1,decide_eq_false h1];rfl) (fun _=>by
      unfold Qmp;rw [X2];rfl)
  unfold Qmq ZG;by_cases h1:p.Nb.length=0\/p.Na.length=0
  · rw [if_pos h1, show (decide ((p.Nb.length : Int) = 0) || decide ((p.Na.length : Int) = 0)) = true by
      simp only [Bool.or_eq_true,decide_eq_true_eq];omega]
    rfl
  rw [if_neg h1,decide_eq_false (show ¬ (p.Nb.length:Int)=0 by omega),decide_eq_false (show ¬ (p.Na.length:Int)=0 by omega)];simp only [Bool.or_self,cond_false];by_cases h2:8 < p.Nb.length\/3 < p.Na.length\/4 < p.Nc.length\/10 < p.Ni.length
  · rw [if_pos h2, show (((decide (8 < (p.Nb.length : Int)) || decide (3 < (p.Na.length : Int))) || decide (4 < (p.Nc.length : Int))) || decide (10 < (p.Ni.length : Int))) = true by
      simp only [Bool.or_eq_true,decide_eq_true_eq];omega]
    rfl
  rw [if_neg h2, show (((decide (8 < (p.Nb.length : Int)) || decide (3 < (p.Na.length : Int))) || decide (4 < (p.Nc.length : Int))) || decide (10 < (p.Ni.length : Int))) = false by
      rw [decide_eq_false (by omega),decide_eq_false (by omega),decide_eq_false (by omega),decide_eq_false (by omega)];rfl]
  rw [cond_false,QAc _ h.se,QAc _ h.tr,l0,l1];have hz:∀ {f:Nat->Int} {n i:Nat},XP f n=some i->f i≠0:=fun hf=>(Qbd hf).2.1
  cases h3:XP (Zi p.Nb) p.Nb.length with
  | some i=>simp [hz h3]
  | none =>
    simp only [Qv,decide_true,Bool.not_true,cond_false];cases h4:XP (Zi p.Na) p.Na.length with
    | some i=>simp [hz h4]
    | none =>
      simp only [decide_true,Bool.not_true,cond_false];cases h5:XP (ZJ p) p.Nc.length with
      | some i=>rfl
      | none =>
        simp only [Xx];cases h6:XP (ZH p) p.Ni.length with
        | some i=>rfl
        | none=>rfl
theorem QQm {p:Nf} (h:PlantS p):Qmt p=some (ZG p).2:=by
 unfold Qmt;rw [QQl h];rfl
/-! ### Copies -/
theorem Qkm (l:List Int) (h:l.length < 1000000):Qct l=some l:=by
 unfold Qct;rw [JO (by simp;omega)];rfl
theorem Qwe (l:List ByteArray) (h:l.length < 1000000):Qhf l=some l:=by
 unfold Qhf;rw [JO (by simp;omega)];rfl
theorem Qoc {α:Type} (l:List α) (k:Nat) (hk:k < l.length):l.take k++[l[k]]=l.take (k+1):=by
 have:=Qub l id k hk;simp
theorem Qkn {p:Nf} (h:PlantS p):Qen p=some p:=by
 have h1:=h.se;have h2:=h.tr;have h3:=h.sw;have h4:=h.ro;have hl:=Qii (step:=Qiq p) (o:=p.Ni) (fun k=>((k:Int),p.Ni.take k)) p.Ni.length (fun k hk=>by
  obtain ⟨_,hr,hn⟩:=h.rn _ (List.getElem_mem hk);unfold Qiq;simp only [XZ hk,cond_true,Xu hk,Qv];rw [Qkm _ (by omega),Qv,Qkm _ (by omega),Qv,JO (by simp;omega),Qv,XI k (by omega),Qoc _ _ hk]) (by
  unfold Qiq;simp only [X2,List.take_length];rfl)
 have hl2:loop (Qiq p) (0,([]:List Nn))=some p.Ni:=hl;unfold Qen;rw [Qwe _ (by omega),Qv,Qwe _ (by omega),Qv,JO (by simp;omega),Qv,Qv];simp only [List.nil_append];rw [hl2];rfl
theorem QFt {x:Nh} (h:StateS x):Qms x=some x:=by
 have h1:=h.sw;have h2:=h.tr;have hl:=Qii (step:=Qir x) (o:=x.Na) (fun k=>((k:Int),x.Na.take k)) x.Na.length (fun k hk=>by
  unfold Qir;simp only [XZ hk,cond_true,Xu hk,Qv];rw [Qkm _ (by have:=h.ch _ (List.getElem_mem hk);omega),Qv,JO (by simp;omega),Qv,XI k (by omega)];show some (Sum.inl (_,x.Na.take k++[x.Na[k]]))=_;rw [Qoc _ _ hk]) (by
  unfold Qir;simp only [X2,List.take_length];rfl)
 have hl2:loop (Qir x) (0,([]:List Nl))=some x.Na:=hl;unfold Qms;rw [Qkm _ (by omega),Qv,Qv];simp only;rw [hl2];rfl
theorem QFs (l:List Nj) (h:l.length < 1000000):Qmr l=some l:=by
 unfold Qmr;rw [JO (by simp;omega)];rfl
/-! ### Equal ones -/
/-! ### The limits -/
theorem QIl (p:Nf):Qhs p=some true/\PlantS p/\(p.Nb.length<=4\/8 < p.Nb.length)\/Qhs p=some false:=by
 unfold Qhs;cases hb:(((((decide (4 < (p.Nb.length:Int))&&decide ((p.Nb.length:Int)<=8))||decide (10 < (p.Nb.length:Int)))||decide (5 < (p.Na.length:Int)))||decide (6 < (p.Nc.length:Int)))||decide (12 < (p.Ni.length:Int))) with
 | true=>exact .inr rfl
 | false =>
  rw [cond_false];simp only [Bool.or_eq_false_iff,Bool.and_eq_false_iff,decide_eq_false_iff_not] at hb;have h1:p.Nb.length < 1000:=by omega
  have h2:p.Na.length < 1000:=by omega
  have h3:p.Nc.length < 1000:=by omega
  have h4:p.Ni.length < 1000:=by omega
  have l0:loop (Qkz p) 0=some (Yv (fun s:ByteArray=>decide (20 < (s.size:Int))) (fun _ _=>false) 0 p.Nb):=Zt p.Nb _ _ (fun k hk=>by
   unfold Qkz;rw [XZ hk,cond_true,Xu hk,Qv,XI k (by omega)]) (by unfold Qkz;rw [X2];rfl)
  have l1:loop (Qla p) 0=some (Yv (fun s:ByteArray=>decide (20 < (s.size:Int))) (fun _ _=>false) 0 p.Na):=Zt p.Na _ _ (fun k hk=>by
   unfold Qla;rw [XZ hk,cond_true,Xu hk,Qv,XI k (by omega)]) (by unfold Qla;rw [X2];rfl)
  have l2:loop (Qlb p) 0=some (Yv (fun s:Nt=>decide (20 < (s.Name.size:Int))) (fun _ _=>false) 0 p.Nc):=Zt p.Nc _ _ (fun k hk=>by
   unfold Qlb;rw [XZ hk,cond_true,Xu hk,Qv,XI k (by omega)]) (by unfold Qlb;rw [X2];rfl)
  have l3:loop (Qlc p) 0=some (Yv (fun r:Nn=>decide (20 < (r.Name.size:Int))||(decide (10 < (r.Nb.length:Int))||decide (6 < (r.Nu.length:Int)))) (fun _ _=>false) 0 p.Ni):=Zt p.Ni _ _ (fun k hk=>by
   unfold Qlc;simp only [XZ hk,cond_true,Xu hk,Qv,XI k (show k < 4611686018427387904 by omega)];cases decide (20 < (p.Ni[k].Name.size:Int))<;>cases decide (10 < (p.Ni[k].Nb.length:Int))<;>cases decide (6 < (p.Ni[k].Nu.length:Int))<;>rfl) (by unfold Qlc;rw [X2];rfl)
  rw [l0,l1,l2,l3];simp only [Qv];rcases JW (p:=fun s:ByteArray=>decide (20 < (s.size:Int))) (res:=fun _ _=>false) p.Nb 0 with ⟨k1,k2⟩ | ⟨j,x,k1,k2,k3⟩
  ·rw [k1];rcases JW (p:=fun s:ByteArray=>decide (20 < (s.size:Int))) (res:=fun _ _=>false) p.Na 0 with ⟨m1,m2⟩ | ⟨j,x,m1,m2,m3⟩
   ·rw [m1];rcases JW (p:=fun s:Nt=>decide (20 < (s.Name.size:Int))) (res:=fun _ _=>false) p.Nc 0 with ⟨n1,n2⟩ | ⟨j,x,n1,n2,n3⟩
    ·rw [n1];rcases JW (p:=fun r:Nn=>decide (20 < (r.Name.size:Int))||(decide (10 < (r.Nb.length:Int))||decide (6 < (r.Nu.length:Int)))) (res:=fun _ _=>false) p.Ni 0 with ⟨o1,o2⟩ | ⟨j,x,o1,o2,o3⟩
     ·rw [o1];rw [List.any_eq_false] at k2 m2 n2 o2;refine .inl ⟨rfl,⟨h1,h2,h3,h4,fun s hs=>?_,fun s hs=>?_,fun s hs=>?_,fun r hr=>?_⟩,by omega⟩
      ·have:=k2 s hs;simp at this;omega
      ·have:=m2 s hs;simp at this;omega
      ·have:=n2 s hs;simp at this;omega
      ·have:=o2 r hr;simp at this;omega
     ·rw [o1];exact .inr rfl
    ·rw [n1];exact .inr rfl
   ·rw [m1];exact .inr rfl
  ·rw [k1];exact .inr rfl
end Go.Gw

end
section
set_option maxRecDepth 4096
namespace Go.Gw
open Go
attribute [local irreducible] loop
theorem QQo {p:Nf} (h:PlantS p) (n:Int):Qmu p n=some (bif YA p n then 0 else 6):=by
 have:=h.se;unfold Qmu;rw [Qcv,Xw (by omega),Qv];show (bif !(YA p n) then _ else _)=_;cases YA p n<;>rfl
theorem QQq {p:Nf} (h:PlantS p) (n:Int):Qmv p n=some (bif Qab p n then 0 else 6):=by
 have:=h.tr;unfold Qmv;rw [Qcv,Xw (by omega),Qv];show (bif !(Qab p n) then _ else _)=_;cases Qab p n<;>rfl
theorem QAb {p:Nf} (h:PlantS p) (e:Nj):Qis p e=some (YX p e):=by
  have h1:=h.sw;have h2:=h.ro;unfold Qis YX;rw [Qcv,Qv];by_cases hk:0<=e.Kind/\e.Kind<=6
  · rw [if_neg (by omega),show (decide (0<=e.Kind)&&decide (e.Kind<=6))=true by simp [hk.1,hk.2]];simp only [Bool.not_true,cond_false];by_cases h2:e.Kind=2
    · rw [if_pos h2,decide_eq_true h2,cond_true,Qcv,Xw (by omega),Qv,QAa];show (bif !(Qev p e.A) then _ else _)=_;cases Qev p e.A<;>cases Y2 e.B<;>rfl
    · rw [if_neg h2,decide_eq_false h2,cond_false,QQq h,Qv,QQo h,Qv,Qcv,Xw (by omega),Qv];cases Qab p e.A
      · rfl
      simp only [cond_true,decide_true,Bool.not_true,cond_false];by_cases h0:e.Kind=0
      · rw [if_pos h0,decide_eq_true h0];rfl
      · rw [if_neg h0,decide_eq_false h0,cond_false];by_cases h1:e.Kind=1
        · rw [if_pos h1,decide_eq_true h1,cond_true];show (bif !(Qeo p e.B) then _ else _)=_;cases Qeo p e.B<;>rfl
        · rw [if_neg h1,decide_eq_false h1,cond_false];by_cases h3:e.B=0
          · rw [if_pos h3,decide_eq_true h3];rfl
          · rw [if_neg h3,decide_eq_false h3];rfl
  · rw [if_pos hk, show (decide (0 <= e.Kind) && decide (e.Kind <= 6)) = false by
      rw [Bool.and_eq_false_iff,decide_eq_false_iff_not,decide_eq_false_iff_not];omega]
    rfl
/-! ### Which section leads to which -/
end Go.Gw

end
section
set_option maxRecDepth 4096
namespace Go.Gw
open Go
attribute [local irreducible] loop
end Go.Gw

end
