/- Laws of the walk. Condition: each theorem says its own. -/
import Derived.Test.YthonianbjkhnpaaGreatDoorGwOnA
import Derived.Test.YthonianbjkhnpaaGreatDoorGwLib21
set_option linter.unusedVariables false
set_option linter.unusedSimpArgs false
set_option linter.unusedSectionVars false
section
set_option maxRecDepth 100000
namespace Go.Gw
open Go
theorem QDs:Qqr=some true:=by decide +kernel
end Go.Gw

end
section
set_option linter.unusedSectionVars false
namespace Go.Gw
section
variable {α β γ σ ρ:Type}
def YR (p:α->Bool) (res:Nat->α->ρ):Nat->List α->ρ⊕Unit
 | _,[]=>.inr ()
 | k,x::xs=>if p x then .inl (res k x) else YR p res (k+1) xs
theorem ZB {step:Int->Option (Int⊕(ρ⊕Unit))} (xs:List α) (p:α->Bool) (res:Nat->α->ρ)
  (hs:∀ k (hk:k < xs.length),step (k:Int)=(bif p xs[k] then some (.inr (.inl (res k xs[k]))) else some (.inl ((k+1:Nat):Int))))
  (he:step (xs.length:Int)=some (.inr (.inr ()))):loop step 0=some (YR p res 0 xs):=by
 have key:∀ j k,j+k=xs.length->loop step (k:Int)=some (YR p res k (xs.drop k)):=by
  intro j
  induction j with
  | zero =>
   intro k hk;obtain rfl:k=xs.length:=by omega
   rw [List.drop_length];exact JW he
  | succ j ih =>
   intro k hk;have hlt:k < xs.length:=by omega
   rw [List.drop_eq_getElem_cons hlt];have:=hs k hlt;cases hp:p xs[k] with
   | true=>simp_all [JW,YR,if_true]
   | false=>grind [Qao,YR]
 have:=key xs.length 0 (by omega);trivial

def fld (f:Nat->γ->α->γ):Nat->γ->List α->γ
 | _,a,[]=>a
 | k,a,x::xs=>fld f (k+1) (f k a x) xs
theorem Xs (k:Nat) (h:k < 4611686018427387904):w64 ((k:Int)+1)=((k+1:Nat):Int):=by grind [YS]
theorem XK {k n:Nat} (h:k < n):decide ((k:Int) < (n:Int))=true:=by simp;omega
theorem XL (n:Nat):decide ((n:Int) < (n:Int))=false:=by simp
end
end Go.Gw

end
section
set_option maxRecDepth 4096
namespace Go.Gw
open Go
def Z4:List Int->Int
 | []=>0
 | x::xs=>if x=0 then Z4 xs else x
theorem Qbl (l:List Int) (hl:l.length < 1073741824):Jc l=some (Z4 l):=by
  unfold Jc;rw [ZB l (fun x=>!decide (x=0)) (fun _ x=>x)]
  · have key : ∀ (l : List Int) k, (XA (YR (fun x => !decide (x = 0)) (fun _ x => x) k l) fun (_ : Unit) => some 0) = some (Z4 l) := by
      intro l
      induction l with
      | nil=>intro k;rfl
      | cons x xs ih =>
        intro k;by_cases h:x=0
        · simp [YR,Z4,h];exact ih _
        · simp [YR,Z4,h,XA]
    simpa using key l 0
  · intro k hk;unfold Qqz;rw [XK hk,Xw hk,Xs k (by omega)];rfl
  · unfold Qqz;rw [XL];rfl
theorem ZQ (b:Bool) (e:Int):Yr b e=some (bif b then 0 else e):=by cases b<;>rfl
theorem QUd (n lo hi:Int):Qan n lo hi=some (decide (lo<=n)&&decide (n<=hi)):=rfl
end Go.Gw

end
section
set_option maxRecDepth 4096
namespace Go.Gw
open Go
def QEd (n:Int):Bool:=decide (0<=n)&&decide (n<=250)
end Go.Gw

end
section
set_option maxRecDepth 4096
namespace Go.Gw
open Go
attribute [local irreducible] loop
end Go.Gw

end
section
set_option maxRecDepth 4096
namespace Go.Gw
open Go
attribute [local irreducible] loop
end Go.Gw

end
section
set_option maxRecDepth 4096
namespace Go.Gw
open Go
attribute [local irreducible] loop
theorem Qgd {α:Type} (p:α->Bool):∀ (l:List α) (k:Nat),(XA (β:=Int) (YR p (fun k _=>(k:Int)) k l) fun (_:Unit)=>some (-1))=some (match YR p (fun k _=>(k:Int)) k l with | .inl i=>i | .inr _=>-1)
 | l,k=>by cases YR p (fun k _=>(k:Int)) k l<;>rfl
theorem Qnk {α:Type} (p:α->Bool):∀ (l:List α) (k:Nat),decide (0<=(match YR p (fun k _=>(k:Int)) k l with | .inl i=>i | .inr _=>(-1:Int)))=l.any p
 | [],k=>by simp [YR]
 | x::xs,k=>by
  by_cases h:p x=true
  ·simp [YR,h]
  ·simp only [YR,h,List.any_cons];have:=Qnk p xs (k+1);simpa [h] using this
theorem JI {α ρ:Type} {p:α->Bool} {res:Nat->α->ρ}:∀ (l:List α) (k:Nat),(YR p res k l=.inr ()/\l.any p=false)\/∃ j x,YR p res k l=.inl (res j x)/\p x=true/\l.any p=true
 | [],k=>.inl ⟨rfl,rfl⟩
 | x::xs,k=>by
  by_cases h:p x=true
  ·exact .inr ⟨k,x,by simp [YR,h],h,by simp [h]⟩
  ·rcases JI xs (k+1) (p:=p) (res:=res) with ⟨h1,h2⟩ | ⟨j,y,h1,h2,h3⟩
   ·exact .inl ⟨by simp [YR,h,h1],by simp [h,h2]⟩
   ·exact .inr ⟨j,y,by simp [YR,h,h1],h2,by simp [h3]⟩
def XY (f:Nat->Int) (n:Nat):Option Nat:=(List.range n).find? fun i=>decide (f i≠0)
theorem Qkf (f:Nat->Int) (n:Nat):(XY f n=none/\∀ j,j < n->f j=0)\/∃ i,XY f n=some i/\i < n/\f i≠0/\∀ j,j < i->f j=0:=by
 cases h:XY f n with
 | none =>
  refine .inl ⟨rfl,fun j hj=>?_⟩;have:=List.find?_eq_none.1 h j (List.mem_range.2 hj);simpa using this
 | some i =>
  right;obtain ⟨h1,h2,h3⟩:=List.find?_range_eq_some.1 h;exact ⟨i,rfl,List.mem_range.1 h2,by simpa using h1,fun j hj=>by have:=h3 j hj;simpa using this⟩
theorem Qcm {σ ρ μ:Type} {step:σ->Option (σ⊕(ρ⊕μ))} (S:Nat->σ) (n:Nat) (f:Nat->Int) (res:Nat->Int->ρ) (o:μ)
  (hs:∀ k,k < n->(∀ j,j < k->f j=0)->step (S k)=if f k=0 then some (.inl (S (k+1))) else some (.inr (.inl (res k (f k))))) (he:(∀ j,j < n->f j=0)->step (S n)=some (.inr (.inr o))) :
  loop step (S 0)=some (match XY f n with | some i=>.inl (res i (f i)) | none=>.inr o):=by
 rcases Qkf f n with ⟨h1,h2⟩ | ⟨i,h1,h2,h3,h4⟩
 ·rw [h1];exact Qln S n (fun k hk=>by rw [hs k hk fun j hj=>h2 j (by omega),if_pos (h2 k hk)]) (he h2)
 ·rw [h1];exact Qln S i (fun k hk=>by rw [hs k (by omega) fun j hj=>h4 j (by omega),if_pos (h4 k hk)]) (by rw [hs i h2 h4,if_neg h3])
/-! ### Names -/
def Qgw (q:Int×Nat):Bool:=(!(((decide (97<=q.1))&&(decide (q.1<=122)))||((decide (65<=q.1))&&(decide (q.1<=90)))))&&((decide ((q.2:Int)=0))||((!decide (q.1=45))&&((decide (q.1 < 48))||(decide (57 < q.1)))))
def bi (s:ByteArray):List Int:=bl s
theorem Qjv (s:ByteArray):(bi s).length=s.size:=ZK s
theorem Qwo {s:ByteArray} {k:Nat} (h:k < (bi s).length):idx (α:=Int) (bl s) (k:Int)=some (bi s)[k]:=Xw (xs:=bi s) h
def Qap (s:ByteArray):Bool:=decide (1<=s.size)&&(decide (s.size<=12)&&!((bi s).zipIdx.any Qgw))
theorem QAp (s:ByteArray):s=ByteArray.mk #[]↔s.size=0:=by
 constructor
 ·intro h;subst h;rfl
 ·intro h;cases s with
  | mk d =>
   congr 1;exact Array.eq_empty_of_size_eq_zero h
theorem Qov (s:ByteArray):Qet s=some (Qap s):=by
  unfold Qet Qap;have hlen:(bi s).zipIdx.length=s.size:=by rw [List.length_zipIdx,Qjv]
  by_cases h:1<=s.size/\s.size<=12
  · have : (decide ((s.size : Int) < 1) || decide (12 < (s.size : Int))) = false := by
      rw [decide_eq_false (by omega),decide_eq_false (by omega)];rfl
    rw [this,cond_false,ZB (bi s).zipIdx Qgw (fun _ _=>false),Qt]
    · rcases JI (p:=Qgw) (res:=fun _ _=>false) (bi s).zipIdx 0 with ⟨k1,k2⟩ | ⟨j,x,k1,k2,k3⟩
      · rw [k1,k2];simp [h,XA]
      · rw [k1,k3];simp [XA]
    · intro k hk;rw [hlen] at hk;unfold Qpb;rw [XK hk,cond_true,Qwo (show k < (bi s).length by rw [Qjv];exact hk),Qt,Xs k (by omega)];simp only [List.getElem_zipIdx,Nat.zero_add];rfl
    · rw [hlen];unfold Qpb;rw [XL];rfl
  · have : (decide ((s.size : Int) < 1) || decide (12 < (s.size : Int))) = true := by
      by_cases h1:s.size < 1
      · rw [decide_eq_true (by omega)];rfl
      · rw [decide_eq_true (p:=12 < (s.size:Int)) (by omega)];simp
    rw [this,cond_true];congr 1;by_cases h1:1<=s.size
    · rw [decide_eq_false (p:=s.size<=12) (by omega)];simp
    · rw [decide_eq_false h1];rfl
theorem Qqm (s:ByteArray) (hs:s.size<=1000):Qfj s=some (Qap s):=by
 unfold Qfj Qap;have hlen:(bi s).zipIdx.length=s.size:=by rw [List.length_zipIdx,Qjv]
 have ht:tob s=some (bl s):=by unfold tob;rw [if_pos (by omega)]
 rw [ht,Qt,ZB (bi s).zipIdx Qgw (fun _ _=>false),Qt]
 ·rcases JI (p:=Qgw) (res:=fun _ _=>false) (bi s).zipIdx 0 with ⟨k1,k2⟩ | ⟨j,x,k1,k2,k3⟩
  ·rw [k1,k2];simp only [XA,Bool.not_false,Bool.and_true,Option.some.injEq];by_cases h0:s.size=0
   ·rw [decide_eq_true ((QAp s).2 h0),decide_eq_false (show ¬ 1<=s.size by omega)];rfl
   ·rw [decide_eq_false (fun e=>h0 ((QAp s).1 e)),decide_eq_true (show 1<=s.size by omega)];simp only [Bool.not_false,Bool.true_and];by_cases h1:s.size<=12
    ·rw [decide_eq_true h1,decide_eq_true (by omega)]
    ·rw [decide_eq_false h1,decide_eq_false (by omega)]
  ·rw [k1,k3];simp [XA]
 ·intro k hk;rw [hlen] at hk;have hk2:k < (bl s).length:=by rw [ZK];exact hk
  unfold Qrd;rw [XK hk2,cond_true,Qwo (show k < (bi s).length by rw [Qjv];exact hk),Qt,Xs k (by omega)];simp only [List.getElem_zipIdx,Nat.zero_add];rfl
 ·rw [hlen,show (s.size:Int)=((bl s).length:Int) by rw [ZK]];unfold Qrd;rw [XL];rfl
theorem Qcd (n lo hi:Int):Jy n lo hi=some (decide (lo<=n)&&decide (n<=hi)):=rfl
theorem QHq (a b:Int):Z4 [a,b]=if a≠0 then a else b:=by
 unfold Z4 Z4 Z4;by_cases h:a=0<;>by_cases h2:b=0<;>simp [h,h2]
theorem QHr (a b c:Int):Z4 [a,b,c]=if a≠0 then a else if b≠0 then b else c:=by
 unfold Z4 Z4 Z4 Z4;by_cases h:a=0<;>by_cases h2:b=0<;>by_cases h3:c=0<;>simp [h,h2,h3]
theorem Qam {α:Type} (l:List α) (f:α->Int) (k:Nat) (hk:k < l.length):(l[k]?.map f).getD 0=f l[k]:=by rw [List.getElem?_eq_getElem hk];rfl
theorem Qbw {α β:Type} (l:List α) (f:α->β) (k:Nat) (hk:k < l.length):(l.take k).map f++[f l[k]]=(l.take (k+1)).map f:=by
 rw [List.take_add_one,List.getElem?_eq_getElem hk,List.map_append];rfl
theorem Qoi {α β:Type} {a:List α} {b:List β} (hl:a.length=b.length):(a.zip b).length=a.length:=by simp [hl]
theorem Qev {α:Type} {xs:List α} {k:Nat} (h:k<=xs.length):cut xs 0 (k:Int)=some (xs.take k):=by
 unfold cut;rw [if_pos (by omega),Int.toNat_natCast];rfl
theorem QDo {α:Type} [DecidableEq α] (l:List α) (v:α):(l.any fun x=>decide (v=x))=decide (v∈l):=by
 rw [Bool.eq_iff_iff];simp
theorem Qux {α:Type} [DecidableEq α] (l:List α) (v:α):(l.any fun x=>decide (x=v))=decide (v∈l):=by
 rw [Bool.eq_iff_iff];simp
def Qck {α:Type} (p:α->Bool) (l:List α):Int:=match YR p (fun k _=>(k:Int)) 0 l with | .inl i=>i | .inr _=>(-1:Int)
theorem Qqj {α:Type} (p:α->Bool) (l:List α):decide (0<=Qck p l)=l.any p:=Qnk p l 0
theorem QIi (l:List Int) (v:Int) (hl:l.length < 1000000):Qnj l v=some (Qck (fun x=>decide (v=x)) l):=by
 unfold Qnj Qck;rw [ZB l (fun x=>decide (v=x)) (fun k _=>(k:Int)),Qt,Qgd]
 ·intro k hk;unfold Qth;rw [XK hk,Xw hk,Xs k (by omega)];rfl
 ·unfold Qth;rw [XL];rfl
theorem Qjz (l:List Int) (v:Int) (hl:l.length < 1000000):Qct l v=some (decide (v∈l)):=by
 unfold Qct;rw [QIi l v hl,Qt,Qqj,QDo]
end Go.Gw

end
section
set_option maxRecDepth 4096
namespace Go.Gw
open Go
attribute [local irreducible] loop
def ZM (s:ByteArray) (others:List ByteArray):Int:=bif Qap s then (bif YL others s then 5 else 0) else 4
def Zn (l:List ByteArray) (k:Nat):Int:=(l[k]?.map fun s=>ZM s (l.take k)).getD 0
def YZ (p:Nd) (n:Int):Bool:=decide (0<=n)&&decide (n<=(p.Nc.length:Int) - 1)
def swX (p:Nd) (k:Nat) (s:Nu):Int:=bif YZ p s.Np then (bif (p.Na.take k).any (fun o=>decide (o.Np=s.Np)) then 26 else 0) else 6
def swE (p:Nd) (k:Nat) (s:Nu):Int:=if ZM s.Name ((p.Na.take k).map (·.Name))=0 then swX p k s else ZM s.Name ((p.Na.take k).map (·.Name))
def ZP (p:Nd) (k:Nat):Int:=(p.Na[k]?.map (swE p k)).getD 0
def rsE (p:Nd) (r:Nm) (k:Nat) (s:Int):Int:=bif YZ p s then (bif decide (s∈r.Nc.take k) then 26 else 0) else 6
def JH (p:Nd) (r:Nm) (k:Nat):Int:=(r.Nc[k]?.map (rsE p r k)).getD 0
def JX (r:Nm) (q:Int×Nu):Bool:=bif decide (q.2.Np∈r.Nc) then !(decide (q.1=0)||decide (q.1=1)) else !decide (q.1=-1)
def rtX (p:Nd) (r:Nm):Int :=
 if r.Nc.length < 2 then 10 else if p.Nc.length < r.Nc.length then 8 else
 match XY (JH p r) r.Nc.length with
 | some i=>JH p r i
 | none=>if r.Nq.length=p.Na.length then (bif (r.Nq.zip p.Na).any (JX r) then 2 else 0) else 10
def rtE (p:Nd) (k:Nat) (r:Nm):Int:=if ZM r.Name ((p.Nh.take k).map (·.Name))=0 then rtX p r else ZM r.Name ((p.Nh.take k).map (·.Name))
def ZO (p:Nd) (k:Nat):Int:=(p.Nh[k]?.map (rtE p k)).getD 0
def JY (p:Nd):Nn×Int :=
 if p.Nc.length=0\/p.Nb.length=0 then (Nn.mk 0 0,10) else if 8 < p.Nc.length\/3 < p.Nb.length\/4 < p.Na.length\/10 < p.Nh.length then (Nn.mk 0 0,8) else
 match XY (Zn p.Nc) p.Nc.length with
 | some i=>(Nn.mk 1 i,Zn p.Nc i)
 | none=>match XY (Zn p.Nb) p.Nb.length with
  | some i=>(Nn.mk 2 i,Zn p.Nb i)
  | none=>match XY (ZP p) p.Na.length with
   | some i=>(Nn.mk 3 i,ZP p i)
   | none=>match XY (ZO p) p.Nh.length with
    | some i=>(Nn.mk 4 i,ZO p i)
    | none=>(Nn.mk 0 0,0)
structure PlantS (p:Nd):Prop where
 se:p.Nc.length < 1000
 tr:p.Nb.length < 1000
 sw:p.Na.length < 1000
 ro:p.Nh.length < 1000
 sn:∀ s∈p.Nc,s.size<=1000
 tn:∀ s∈p.Nb,s.size<=1000
 wn:∀ s∈p.Na,s.Name.size<=1000
 rn:∀ r∈p.Nh,r.Name.size<=1000/\r.Nc.length < 1000/\r.Nq.length < 1000
theorem Qqh {α:Type} (l:List α) (f:α->ByteArray) (k:Nat) (hk:k < l.length) (h:YL ((l.take k).map f) (f l[k])=false):ZW ((l.take k).map f) (f l[k])=(l.take (k+1)).map f:=by
 unfold ZW;rw [h,if_neg (by simp),Qbw l f k hk]
theorem Qrq (s:ByteArray) (others:List ByteArray):Z4 [bif Qap s then 0 else 4,bif !(YL others s) then 0 else 5]=ZM s others:=by
 unfold ZM;cases Qap s<;>cases YL others s<;>rfl
theorem Qrr {s:ByteArray} {others:List ByteArray} (h:ZM s others=0):YL others s=false:=by
 unfold ZM at h;cases h1:YL others s with
 | false=>rfl
 | true=>rw [h1] at h;cases h2:Qap s<;>rw [h2] at h<;>cases h
theorem QEv {n m:Int} (h:n≠m):decide (n=m)=false:=decide_eq_false h
theorem Qxx (l:List ByteArray) (mark:Int) (hl:l.length < 1000) (hn:∀ s∈l,s.size<=1000):Qht mark l=some (match XY (Zn l) l.length with | some i=>(Nn.mk mark i,Zn l i) | none=>(Nn.mk 0 0,0)):=by
 unfold Qht;have key:loop (Qhs l mark) (0,[])=some (match XY (Zn l) l.length with | some i=>.inl (Nn.mk mark i,Zn l i) | none=>.inr ()):=by
  refine Qcm (step:=Qhs l mark) (fun k=>((k:Int),(l.take k).map id)) l.length (Zn l) (fun i e=>(Nn.mk mark i,e)) () (fun k hk _=>?_) (fun _=>?_)
  ·have hs:Zn l k=ZM l[k] (l.take k):=Qam _ _ _ hk;have hi:=fun h=>Qqh l id k hk h
   simp only [List.map_id,id_eq] at hi ⊢;rw [hs];unfold Qhs;simp only [XK hk,cond_true,Xw hk,Qt];rw [show Qre l[k]=some l[k] from rfl,Qt,Qqm _ (hn _ (List.getElem_mem hk)),Qt];simp only [ZQ,Qt];rw [Qbl _ (by simp),Qt,Qrq];by_cases h:ZM l[k] (l.take k)=0
   ·rw [if_pos h,h,hi (Qrr h),Xs k (by omega)];rfl
   ·rw [if_neg h,QEv h];rfl
  ·unfold Qhs;simp only [XL];rfl
 rw [key,Qt];cases XY (Zn l) l.length<;>rfl
theorem QEh (l:List Nu) (s:Nu) (hl:l.length < 1000):Qng l s=some (l.any fun o=>decide (o.Np=s.Np)):=by
 unfold Qng Qtd;rw [ZB l (fun o=>decide (o.Np=s.Np)) (fun k _=>(k:Int)),Qt,Qgd,Qt,Qnk]
 ·intro k hk;unfold Qtc;rw [XK hk,Xw hk,Xs k (by omega)];rfl
 ·unfold Qtc;rw [XL];rfl
theorem QAl (p:Nd) (hp:p.Nc.length < 1000) (n:Int):Qan n 0 (w64 ((p.Nc.length:Int) - 1))=some (YZ p n):=by
 rw [QUd,YS (by omega)];rfl
theorem QSp {p:Nd} (h:PlantS p) (k:Nat) (hk:k < p.Na.length):Qlm p k=some (swX p k p.Na[k]):=by
 have h1:=h.sw;unfold Qlm swX;rw [Xw hk,Qt,Qev (by omega),Qt,QEh _ _ (by simp;omega),Qt,QAl p h.se,Qt,ZQ,Qt,ZQ,Qt,Qbl _ (by simp),Qt];cases YZ p p.Na[k].Np<;>cases (p.Na.take k).any (fun o=>decide (o.Np=p.Na[k].Np))<;>rfl
theorem QSr {p:Nd} (h:PlantS p):Qli 3 p.Na p=some (match XY (ZP p) p.Na.length with | some i=>(Nn.mk 3 i,ZP p i) | none=>(Nn.mk 0 0,0)):=by
 have hl:=h.sw;unfold Qli;have key:loop (Qhr p p.Na 3) (0,[])=some (match XY (ZP p) p.Na.length with | some i=>.inl (Nn.mk 3 i,ZP p i) | none=>.inr ()):=by
  refine Qcm (step:=Qhr p p.Na 3) (fun k=>((k:Int),(p.Na.take k).map (·.Name))) p.Na.length (ZP p) (fun i e=>(Nn.mk 3 i,e)) () (fun k hk _=>?_) (fun _=>?_)
  ·have hs:ZP p k=swE p k p.Na[k]:=Qam _ _ _ hk;have hi:=fun h=>Qqh p.Na (·.Name) k hk h
   rw [hs];unfold Qhr swE;simp only [XK hk,cond_true,Xw hk,Qt];rw [show Qqu p.Na[k]=some p.Na[k].Name from rfl,Qt,Qqm _ (h.wn _ (List.getElem_mem hk)),Qt];simp only [ZQ,Qt];rw [Qbl _ (by simp),Qt,Qrq,show Qkw (k:Int) p=some (swX p k p.Na[k]) by unfold Qkw;rw [QSp h k hk];rfl];by_cases h1:ZM p.Na[k].Name ((p.Na.take k).map (·.Name))=0
   ·simp only [h1,hi (Qrr h1),if_true,decide_true,Bool.true_and,cond_true,Qt,Xs k (show k < 4611686018427387904 by omega)];by_cases h2:swX p k p.Na[k]=0
    ·simp [h2]
    ·simp [h2]
   ·simp only [h1,if_false,decide_false,Bool.false_and,cond_false,Qt,Bool.not_false,cond_true]
  ·unfold Qhr;simp only [XL];rfl
 rw [key,Qt];cases XY (ZP p) p.Na.length<;>rfl
theorem QPz {p:Nd} (h:PlantS p) (r:Nm) (hr:r.Nc.length < 1000):loop (Qlj r p) 0=some (match XY (JH p r) r.Nc.length with | some i=>.inl (JH p r i) | none=>.inr ()) :=
 Qcm (fun k=>(k:Int)) r.Nc.length (JH p r) (fun _ e=>e) () (fun k hk _=>by
  have hs:JH p r k=rsE p r k r.Nc[k]:=Qam _ _ _ hk;rw [hs];unfold Qlj rsE;rw [XK hk,cond_true,Xw hk,Qt,Qev (by omega),Qt,QAl p h.se,Qt,ZQ,Qt,Qjz _ _ (by simp;omega),Qt,ZQ,Qt,Qbl _ (by simp),Qt,Xs k (by omega)];cases YZ p r.Nc[k]<;>cases decide (r.Nc[k]∈r.Nc.take k)<;>rfl) (fun _=>by
  unfold Qlj;rw [XL];rfl)
theorem QPy {p:Nd} (r:Nm) (hr:r.Nc.length < 1000) (hn:r.Nq.length < 1000) (he:r.Nq.length=p.Na.length):loop (Qlk r p) 0=some (YR (JX r) (fun _ _=>(2:Int)) 0 (r.Nq.zip p.Na)) :=
 ZB (r.Nq.zip p.Na) _ _ (fun k hk=>by
  rw [Qoi he] at hk;unfold Qlk;rw [XK hk,cond_true,Xw hk,Qt,Xw (show k < p.Na.length by omega),Qt,Qjz _ _ (by omega),Qt,Xs k (by omega)];simp only [List.getElem_zip,JX];rw [show Qlc r.Nq[k]=some (decide (r.Nq[k]=0)||decide (r.Nq[k]=1)) from rfl];cases decide (p.Na[k].Np∈r.Nc)<;>rfl) (by
  rw [Qoi he];unfold Qlk;rw [XL];rfl)
theorem QQc {p:Nd} (h:PlantS p) (k:Nat) (hk:k < p.Nh.length):Qll p k=some (rtX p p.Nh[k]):=by
 obtain ⟨_,hr,hn⟩:=h.rn _ (List.getElem_mem hk);have h1:=h.se;have h2:=h.sw;unfold Qll rtX;rw [Xw hk,Qt,ZQ,Qt,ZQ,Qt,Qbl _ (by simp),Qt];generalize p.Nh[k]=r at hr hn ⊢;by_cases h3:r.Nc.length < 2
 ·rw [if_pos h3,decide_eq_false (show ¬ (2<=(r.Nc.length:Int)) by omega)];rfl
 rw [if_neg h3,decide_eq_true (show 2<=(r.Nc.length:Int) by omega)];by_cases h4:p.Nc.length < r.Nc.length
 ·rw [if_pos h4,decide_eq_false (show ¬ ((r.Nc.length:Int)<=p.Nc.length) by omega)];rfl
 rw [if_neg h4,decide_eq_true (show (r.Nc.length:Int)<=p.Nc.length by omega),QPz h r hr];simp only [Z4,cond_true,if_true,decide_true,Bool.not_true,cond_false,Qt];cases XY (JH p r) r.Nc.length with
 | some i=>rfl
 | none =>
  simp only [XA];by_cases h5:r.Nq.length=p.Na.length
  ·rw [if_pos h5,decide_eq_true (by omega),Bool.not_true,cond_false,QPy r hr hn h5,Qt];rcases JI (p:=JX r) (res:=fun _ _=>(2:Int)) (r.Nq.zip p.Na) 0 with ⟨k1,k2⟩ | ⟨j,x,k1,k2,k3⟩
   ·rw [k1,k2];rfl
   ·rw [k1,k3];rfl
  ·rw [if_neg h5,decide_eq_false (by omega)];rfl
theorem QQo {p:Nd} (h:PlantS p):Qlh 4 p.Nh p=some (match XY (ZO p) p.Nh.length with | some i=>(Nn.mk 4 i,ZO p i) | none=>(Nn.mk 0 0,0)):=by
 have hl:=h.ro;unfold Qlh;have key:loop (Qhq p p.Nh 4) (0,[])=some (match XY (ZO p) p.Nh.length with | some i=>.inl (Nn.mk 4 i,ZO p i) | none=>.inr ()):=by
  refine Qcm (step:=Qhq p p.Nh 4) (fun k=>((k:Int),(p.Nh.take k).map (·.Name))) p.Nh.length (ZO p) (fun i e=>(Nn.mk 4 i,e)) () (fun k hk _=>?_) (fun _=>?_)
  ·have hs:ZO p k=rtE p k p.Nh[k]:=Qam _ _ _ hk;have hi:=fun h=>Qqh p.Nh (·.Name) k hk h
   rw [hs];unfold Qhq rtE;simp only [XK hk,cond_true,Xw hk,Qt];rw [show Qqw p.Nh[k]=some p.Nh[k].Name from rfl,Qt,Qqm _ (h.rn _ (List.getElem_mem hk)).1,Qt];simp only [ZQ,Qt];rw [Qbl _ (by simp),Qt,Qrq,show Qkx (k:Int) p=some (rtX p p.Nh[k]) by unfold Qkx;rw [QQc h k hk];rfl];by_cases h1:ZM p.Nh[k].Name ((p.Nh.take k).map (·.Name))=0
   ·simp only [h1,hi (Qrr h1),if_true,decide_true,Bool.true_and,cond_true,Qt,Xs k (show k < 4611686018427387904 by omega)];by_cases h2:rtX p p.Nh[k]=0
    ·simp [h2]
    ·simp [h2]
   ·simp only [h1,if_false,decide_false,Bool.false_and,cond_false,Qt,Bool.not_false,cond_true]
  ·unfold Qhq;simp only [XL];rfl
 rw [key,Qt];cases XY (ZO p) p.Nh.length<;>rfl
theorem QEi {p:Nd} (h:PlantS p):Qky p=some (JY p):=by
  unfold Qky JY;rw [ZQ,Qt,ZQ,Qt,Qbl _ (by simp),Qt];by_cases h1:p.Nc.length=0\/p.Nb.length=0
  · rw [if_pos h1, show (decide (0 < (p.Nc.length : Int)) && decide (0 < (p.Nb.length : Int))) = false by
      rcases h1 with h1 | h1
      · rw [decide_eq_false (show ¬ (0 < (p.Nc.length:Int)) by omega)];rfl
      · rw [decide_eq_false (show ¬ (0 < (p.Nb.length:Int)) by omega),Bool.and_false]]
    rfl
  rw [if_neg h1,decide_eq_true (show 0 < (p.Nc.length:Int) by omega),decide_eq_true (show 0 < (p.Nb.length:Int) by omega)];by_cases h2:8 < p.Nc.length\/3 < p.Nb.length\/4 < p.Na.length\/10 < p.Nh.length
  · rw [if_pos h2, show (((decide (8 < (p.Nc.length : Int)) || decide (3 < (p.Nb.length : Int))) || decide (4 < (p.Na.length : Int))) || decide (10 < (p.Nh.length : Int))) = true by
      simp only [Bool.or_eq_true,decide_eq_true_eq];omega]
    rfl
  rw [if_neg h2, show (((decide (8 < (p.Nc.length : Int)) || decide (3 < (p.Nb.length : Int))) || decide (4 < (p.Na.length : Int))) || decide (10 < (p.Nh.length : Int))) = false by
      rw [decide_eq_false (by omega),decide_eq_false (by omega),decide_eq_false (by omega),decide_eq_false (by omega)];rfl]
  unfold Qqs Qqt Qqv Qqx;rw [Qxx _ _ h.se h.sn,Qxx _ _ h.tr h.tn,QSr h,QQo h];have hz:∀ {f:Nat->Int} {n i:Nat},XY f n=some i->f i≠0:=fun {f n i} hf=>by
    rcases Qkf f n with ⟨k1,_⟩ | ⟨j,k1,_,k3,_⟩
    · rw [k1] at hf;cases hf
    · rw [k1] at hf;cases hf;exact k3
  simp only [Bool.true_and,Bool.not_false,cond_true,Z4,if_true,decide_true,Bool.not_true,cond_false,Qt];cases h3:XY (Zn p.Nc) p.Nc.length with
  | some i=>simp [hz h3]
  | none =>
    simp only [decide_true,Bool.not_true,cond_false];cases h4:XY (Zn p.Nb) p.Nb.length with
    | some i=>simp [hz h4]
    | none =>
      simp only [decide_true,Bool.not_true,cond_false];cases h5:XY (ZP p) p.Na.length with
      | some i=>simp [hz h5]
      | none =>
        simp only [decide_true,Bool.not_true,cond_false];cases h6:XY (ZO p) p.Nh.length with
        | some i=>simp [hz h6]
        | none=>simp
theorem Qzg {p:Nd} (h:PlantS p):Qfn p=some (JY p).2:=by
 unfold Qfn;rw [QEi h];rfl
end Go.Gw

end
section
set_option maxRecDepth 4096
namespace Go.Gw
open Go
attribute [local irreducible] loop
theorem Qhe {α:Type} {xs:List α} (h:1<=xs.length):cut xs 1 (xs.length:Int)=some (xs.drop 1):=by
 unfold cut;rw [if_pos (by omega),Int.toNat_natCast,List.take_length];rfl
structure StateS (x:Nf):Prop where
 sw:x.Na.length < 1000
 tr:x.Nb.length < 1000
 ch:∀ t∈x.Nb,t.Ng.length < 1000
def Yb (x:Nf) (s:Int):Int:=Qck (fun t:Nl=>decide (s∈t.Ng)) x.Nb
def Zj (x:Nf) (s:Int):Bool:=x.Nb.any fun t=>decide (s∈t.Ng)
theorem Qko (x:Nf) (s:Int):decide (0<=Yb x s)=Zj x s:=Qqj _ _
theorem QHz (p:Nd) {x:Nf} (h:StateS x) (s:Int):Qld (some ⟨p,x⟩) s=some (Yb x s):=by
 have h1:=h.tr;unfold Qld Qte Yb Qck;rw [Qt];show (Option.bind (Option.bind (loop (Qni s x.Nb) 0) _) _)=_;rw [ZB x.Nb (fun t=>decide (s∈t.Ng)) (fun k _=>(k:Int)),Qt,Qgd,Qt]
 ·intro k hk;unfold Qni Qrf;rw [XK hk,cond_true,Xw hk,Qt,Qjz _ _ (by have:=h.ch _ (List.getElem_mem hk);omega),Qt,Qt,Xs k (by omega)]
 ·unfold Qni;rw [XL];rfl
theorem Qts (p:Nd) {x:Nf} (h:StateS x) (l:List Int) (hl:l.length < 1000):Qfm (some ⟨p,x⟩) l=some (l.any (Zj x)):=by
 unfold Qfm Qtb Qtg;rw [ZB l (Zj x) (fun k _=>(k:Int)),Qt,Qgd,Qt,Qnk]
 ·rfl
 ·intro k hk;unfold Qtf Qrh;rw [XK hk,cond_true,Xw hk,Qt,QHz p h,Qt,Qt,Qko,Xs k (by omega)]
 ·unfold Qtf;rw [XL];rfl
def Qhl (secs:List Int) (q:Nu×(Int×Int)):Bool:=decide (q.1.Np∈secs)&&!decide (q.2.1=q.2.2)
def ZX (p:Nd) (sw:List Int) (r:Nm) (secs:List Int):Bool:=!((p.Na.zip (r.Nq.zip sw)).any (Qhl secs))
theorem QRy (α:Type) (p:α->Bool) (l:List α):(XA (YR p (fun _ _=>false) 0 l) fun (_:Unit)=>some true)=some (!(l.any p)):=by
 rcases JI (p:=p) (res:=fun _ _=>false) l 0 with ⟨k1,k2⟩ | ⟨j,x,k1,k2,k3⟩
 ·rw [k1,k2];rfl
 ·rw [k1,k3];rfl
theorem QJb {p:Nd} {x:Nf} {r:Nm} {secs:List Int} (h1:r.Nq.length=p.Na.length) (h2:x.Na.length=p.Na.length) (h3:p.Na.length < 1000) (hs:secs.length < 1000):Qle (some ⟨p,x⟩) r secs=some (ZX p x.Na r secs):=by
 unfold Qle ZX;have hlen:(p.Na.zip (r.Nq.zip x.Na)).length=p.Na.length:=by simp [h1,h2]
 rw [Qt,ZB (p.Na.zip (r.Nq.zip x.Na)) (Qhl secs) (fun _ _=>false),Qt,QRy]
 ·intro k hk;rw [hlen] at hk;unfold Qrg;rw [XK hk,cond_true,Xw hk,Qt,Qjz _ _ (by omega),Qt,Xs k (by omega)];simp only [Qt];rw [Xw (show k < r.Nq.length by omega),Xw (show k < x.Na.length by omega)];simp only [List.getElem_zip,Qhl,Qt];cases decide (p.Na[k].Np∈secs)<;>rfl
 ·rw [hlen];unfold Qrg;rw [XL];rfl
theorem QEm (l:List Nl) (h:l.length < 1000000):Qne l=some l:=by
 unfold Qne;rw [Zl (by simp;omega)];rfl
theorem QEl (l:List Int) (h:l.length < 1000000):Qea l=some l:=by
 unfold Qea;rw [Zl (by simp;omega)];rfl
theorem Qbn {α:Type} {xs:List α} {i:Int} (h0:0<=i) (h:i.toNat < xs.length):idx xs i=some xs[i.toNat]:=by
 unfold idx;rw [if_pos h0,List.getElem?_eq_getElem h]
theorem QLh (p:Nd) (x:Nf) {a:Int} (h0:0<=a) (hk:a.toNat < x.Nb.length) (hl:x.Nb.length < 1000) (c:List Int) (u:Int):Qbp (some ⟨p,x⟩) a c u=some (some ⟨p,⟨x.Na,x.Nb.set a.toNat ⟨c,u⟩,x.Ni⟩⟩):=by
 unfold Qbp;rw [Qt,QEm _ (by show x.Nb.length < _;omega),Qt];show Option.bind (idx x.Nb a) _=_;rw [Qbn h0 hk,Qt]
theorem QHt (n:Nat) (h:n < 1000000):Qnh (n:Int)=some []:=by
 unfold Qnh;rw [decide_eq_false (show ¬ (n:Int) < 0 by omega)];simp only [cond_false,Qt,Int.natCast_zero,Int.sub_zero];rw [show w64 (0:Int)=0 from rfl,Int.sub_zero,YS (by omega)];by_cases h0:0 < (n:Int)
 ·rw [decide_eq_true h0,cond_true];unfold mkZ
  first
  | (rw [if_pos (by omega),Qt];unfold cut;rw [if_pos (by simp)];rfl)
  | skip
 ·rw [decide_eq_false h0];rfl
theorem QEq (a b:List Int) (ha:a.length < 1000) (hb:b.length < 1000):Qnf [a,b]=some (a++b):=by
 have f0:Qgb [a,b] (0,0)=some (.inl ((a.length:Int),1)):=by
  unfold Qgb;simp only [show decide ((0:Int) < (([a,b]:List (List Int)).length:Int))=true from rfl,cond_true,show idx [a,b] (0:Int)=some a from rfl,Qt,Int.zero_add];rw [YS (by omega),decide_eq_false (by omega)];rfl
 have f1:Qgb [a,b] ((a.length:Int),1)=some (.inl (((a.length+b.length:Nat):Int),2)):=by
  unfold Qgb;simp only [show decide ((1:Int) < (([a,b]:List (List Int)).length:Int))=true from rfl,cond_true,show idx [a,b] (1:Int)=some b from rfl,Qt];rw [YS (by omega),decide_eq_false (by omega),show ((a.length:Int)+(b.length:Int))=((a.length+b.length:Nat):Int) by omega];rfl
 have f2:Qgb [a,b] (((a.length+b.length:Nat):Int),2)=some (.inr ((a.length+b.length:Nat):Int)):=rfl;have g0:Qgc [a,b] ([],0)=some (.inl (a,1)):=by
  unfold Qgc;simp only [show decide ((0:Int) < (([a,b]:List (List Int)).length:Int))=true from rfl,cond_true,show idx [a,b] (0:Int)=some a from rfl,Qt];rw [Zl (by simp;omega)];rfl
 have g1:Qgc [a,b] (a,1)=some (.inl (a++b,2)):=by
  unfold Qgc;simp only [show decide ((1:Int) < (([a,b]:List (List Int)).length:Int))=true from rfl,cond_true,show idx [a,b] (1:Int)=some b from rfl,Qt];rw [Zl (by omega)];rfl
 have g2:Qgc [a,b] (a++b,2)=some (.inr (a++b)):=rfl;unfold Qnf;rw [Qao f0,Qao f1,JW f2,Qt,QHt _ (by omega),Qt,Qao g0,Qao g1,JW g2,Qt]
/-! ### Events -/
def Qcy (p:Nd) (n:Int):Bool:=decide (0<=n)&&decide (n<=(p.Nb.length:Int) - 1)
def Qgh (p:Nd) (n:Int):Bool:=decide (0<=n)&&decide (n<=(p.Na.length:Int) - 1)
def Qfy (p:Nd) (n:Int):Bool:=decide (0<=n)&&decide (n<=(p.Nh.length:Int) - 1)
def Qcs (n:Int):Bool:=decide (n=0)||decide (n=1)
def YT (p:Nd) (e:Nj):Int :=
 if ¬ (0<=e.Kind/\e.Kind<=6) then 15 else if e.Kind=2 then (bif Qgh p e.A then (bif Qcs e.B then 0 else 2) else 6) else
 bif Qcy p e.A then (if e.Kind=0 then (bif YZ p e.B then 0 else 6) else if e.Kind=1 then (bif Qfy p e.B then 0 else 6) else if e.B=0 then 0 else 3) else 6
def ZH (x:Nf) (e:Nj):Nl:=x.Nb[e.A.toNat]?.getD ⟨[],0⟩
def Qec (p:Nd) (e:Nj):Nu:=p.Na[e.A.toNat]?.getD ⟨ByteArray.mk #[],0⟩
def J1 (p:Nd) (e:Nj):Nm:=p.Nh[e.B.toNat]?.getD ⟨ByteArray.mk #[],[],[]⟩
def Y5 (p:Nd) (x:Nf) (e:Nj):Int :=
 if e.Kind=2 then (bif Zj x (Qec p e).Np then 17 else 0) else
 if e.Kind=0 then (if (ZH x e).Ng.length=0 then (bif Zj x e.B then 17 else 0) else 22) else
 if (ZH x e).Ng.length=0 then 22 else
 if e.Kind=1 then (if (J1 p e).Nc.head?=(ZH x e).Ng.getLast? then (bif ((J1 p e).Nc.drop 1).any (Zj x) then 17 else bif ZX p x.Na (J1 p e) (J1 p e).Nc then 0 else 13) else 23) else
 if e.Kind=4 then (if 1 < (ZH x e).Nk then 0 else 12) else
 if e.Kind=3\/e.Kind=5 then (if (ZH x e).Nk < (ZH x e).Ng.length then 0 else 12) else
 if (ZH x e).Ng.length=1 then 0 else 17
def trX (p:Nd) (t:Nl) (e:Nj):Nl :=
 if e.Kind=0 then ⟨[e.B],1⟩ else if e.Kind=1 then ⟨t.Ng++(J1 p e).Nc.drop 1,t.Nk⟩ else if e.Kind=3 then ⟨t.Ng,t.Nk+1⟩ else
 if e.Kind=4 then ⟨t.Ng.drop 1,t.Nk - 1⟩ else if e.Kind=5 then ⟨t.Ng.take (t.Ng.length - 1),t.Nk⟩ else ⟨[],0⟩
def Ye (p:Nd) (x:Nf) (e:Nj):Nf :=
 if e.Kind=2 then ⟨x.Na.set e.A.toNat e.B,x.Nb,x.Ni⟩ else ⟨x.Na,x.Nb.set e.A.toNat (trX p (ZH x e) e),x.Ni⟩
end Go.Gw

end
section
set_option maxRecDepth 4096
namespace Go.Gw
open Go
attribute [local irreducible] loop
theorem Qpz {f:Nat->Int} {n:Nat} (h:XY f n=none):∀ j,j < n->f j=0:=by
 rcases Qkf f n with ⟨_,h2⟩ | ⟨i,h1,_⟩
 ·exact h2
 ·rw [h1] at h;cases h
theorem Qfc {f:Nat->Int} {n i:Nat} (h:XY f n=some i):i < n/\f i≠0/\∀ j,j < i->f j=0:=by
 rcases Qkf f n with ⟨h1,_⟩ | ⟨j,h1,h2,h3,h4⟩
 ·rw [h1] at h;cases h
 ·rw [h1] at h;cases h;exact ⟨h2,h3,h4⟩
theorem QNw {α:Type} {l:List α} (h:∀ k (hk:k < l.length),l[k]∉l.take k):l.Nodup:=by
 unfold List.Nodup;rw [List.pairwise_iff_getElem];intro i j hi hj hij e;refine h j hj ?_;rw [<-e];exact List.mem_take_iff_getElem.2 ⟨i,by omega,rfl⟩
structure PlantOk (p:Nd):Prop where
 s1:1<=p.Nc.length
 s8:p.Nc.length<=8
 t1:1<=p.Nb.length
 t3:p.Nb.length<=3
 w4:p.Na.length<=4
 r10:p.Nh.length<=10
 ws:∀ s∈p.Na,YZ p s.Np=true
 r2:∀ r∈p.Nh,2<=r.Nc.length
 r8:∀ r∈p.Nh,r.Nc.length<=p.Nc.length
 rs:∀ r∈p.Nh,∀ s∈r.Nc,YZ p s=true
 rd:∀ r∈p.Nh,r.Nc.Nodup
 rn:∀ r∈p.Nh,r.Nq.length=p.Na.length
 rx:∀ r∈p.Nh,(r.Nq.zip p.Na).any (JX r)=false
theorem Qfw {p:Nd} {r:Nm} (h:rtX p r=0):2<=r.Nc.length/\r.Nc.length<=p.Nc.length/\(∀ s∈r.Nc,YZ p s=true)/\r.Nc.Nodup/\r.Nq.length=p.Na.length/\(r.Nq.zip p.Na).any (JX r)=false:=by
 unfold rtX at h;by_cases h1:r.Nc.length < 2
 ·rw [if_pos h1] at h;cases h
 rw [if_neg h1] at h;by_cases h2:p.Nc.length < r.Nc.length
 ·rw [if_pos h2] at h;cases h
 rw [if_neg h2] at h;cases hf:XY (JH p r) r.Nc.length with
 | some i=>rw [hf] at h;exact absurd h (Qfc hf).2.1
 | none =>
  rw [hf] at h;have hz:∀ k (hk:k < r.Nc.length),rsE p r k r.Nc[k]=0:=fun k hk=>by
   have:=Qpz hf k hk;rwa [show JH p r k=rsE p r k r.Nc[k] from Qam _ _ _ hk] at this
  have hz2:∀ k (hk:k < r.Nc.length),YZ p r.Nc[k]=true/\r.Nc[k]∉r.Nc.take k:=fun k hk=>by
   have:=hz k hk;unfold rsE at this;cases hb:YZ p r.Nc[k] with
   | false=>rw [hb] at this;cases this
   | true =>
    rw [hb,cond_true] at this;refine ⟨rfl,fun hm=>?_⟩;rw [decide_eq_true hm] at this;cases this
  have h3:r.Nq.length=p.Na.length/\(r.Nq.zip p.Na).any (JX r)=false:=by
   by_cases h5:r.Nq.length=p.Na.length
   ·simp only [h5,if_true] at h;refine ⟨h5,?_⟩;cases hb:(r.Nq.zip p.Na).any (JX r) with
    | false=>rfl
    | true=>rw [hb] at h;cases h
   ·simp only [h5,if_false] at h;cases h
  refine ⟨by omega,by omega,fun s hs=>?_,QNw fun k hk=>(hz2 k hk).2,h3.1,h3.2⟩;obtain ⟨k,hk,rfl⟩:=List.getElem_of_mem hs;exact (hz2 k hk).1
theorem Qzh {p:Nd} (h:(JY p).2=0):PlantOk p:=by
 unfold JY at h;by_cases h1:p.Nc.length=0\/p.Nb.length=0
 ·rw [if_pos h1] at h;cases h
 rw [if_neg h1] at h;by_cases h2:8 < p.Nc.length\/3 < p.Nb.length\/4 < p.Na.length\/10 < p.Nh.length
 ·rw [if_pos h2] at h;cases h
 rw [if_neg h2] at h;cases h3:XY (Zn p.Nc) p.Nc.length with
 | some i=>rw [h3] at h;exact absurd h (Qfc h3).2.1
 | none =>
  rw [h3] at h;cases h4:XY (Zn p.Nb) p.Nb.length with
  | some i=>rw [h4] at h;exact absurd h (Qfc h4).2.1
  | none =>
   rw [h4] at h;cases h5:XY (ZP p) p.Na.length with
   | some i=>rw [h5] at h;exact absurd h (Qfc h5).2.1
   | none =>
    rw [h5] at h;cases h6:XY (ZO p) p.Nh.length with
    | some i=>rw [h6] at h;exact absurd h (Qfc h6).2.1
    | none =>
     have hr:∀ r∈p.Nh,rtX p r=0:=fun r hr=>by
      obtain ⟨k,hk,rfl⟩:=List.getElem_of_mem hr;have:=Qpz h6 k hk;rw [show ZO p k=rtE p k p.Nh[k] from Qam _ _ _ hk] at this;unfold rtE at this;by_cases hn:ZM p.Nh[k].Name ((p.Nh.take k).map (·.Name))=0
      ·rwa [if_pos hn] at this
      ·rw [if_neg hn] at this;exact absurd this hn
     refine ⟨by omega,by omega,by omega,by omega,by omega,by omega,fun s hs=>?_,fun r h=>(Qfw (hr r h)).1,fun r h=>(Qfw (hr r h)).2.1,fun r h=>(Qfw (hr r h)).2.2.1,fun r h=>(Qfw (hr r h)).2.2.2.1,fun r h=>(Qfw (hr r h)).2.2.2.2.1,fun r h=>(Qfw (hr r h)).2.2.2.2.2⟩;obtain ⟨k,hk,rfl⟩:=List.getElem_of_mem hs;have:=Qpz h5 k hk;rw [show ZP p k=swE p k p.Na[k] from Qam _ _ _ hk] at this;unfold swE at this;by_cases hn:ZM p.Na[k].Name ((p.Na.take k).map (·.Name))=0
     ·rw [if_pos hn] at this;unfold swX at this;cases hb:YZ p p.Na[k].Np with
      | true=>rfl
      | false=>rw [hb] at this;cases this
     ·rw [if_neg hn] at this;exact absurd this hn
def Qma (r:Nm) (a b:Int):Bool:=(r.Nc.zip (r.Nc.drop 1)).any fun q=>decide (q.1=a)&&decide (q.2=b)
def Qkv (p:Nd) (sw:List Int) (a b:Int):Bool:=p.Nh.any fun r=>Qma r a b&&ZX p sw r [a,b]
theorem pairB_iff {r:Nm} {a b:Int}:Qma r a b=true↔∃ k,∃ hk:k+1 < r.Nc.length,r.Nc[k]=a/\r.Nc[k+1]=b:=by
 unfold Qma;rw [List.any_eq_true];constructor
 ·rintro ⟨q,hq,h⟩;obtain ⟨k,hk,rfl⟩:=List.getElem_of_mem hq;simp only [List.length_zip,List.length_drop] at hk;simp only [List.getElem_zip,List.getElem_drop,Bool.and_eq_true,decide_eq_true_eq] at h;refine ⟨k,by omega,h.1,?_⟩;rw [<-h.2];congr 1;omega
 ·rintro ⟨k,hk,h1,h2⟩;refine ⟨(r.Nc[k],r.Nc[k+1]),?_,by simp [h1,h2]⟩;rw [List.mem_iff_getElem];refine ⟨k,by simp only [List.length_zip,List.length_drop];omega,?_⟩;simp only [List.getElem_zip,List.getElem_drop,Prod.mk.injEq,true_and];congr 1;omega
structure StateOk (p:Nd) (x:Nf):Prop where
 sw:x.Na.length=p.Na.length
 tr:x.Nb.length=p.Nb.length
 pos:∀ n∈x.Na,Qcs n=true
 cnt:QEd x.Ni=true
 un:∀ t∈x.Nb,(t.Ng=[]/\t.Nk=0)\/(1<=t.Nk/\t.Nk<=t.Ng.length)
 sc:∀ t∈x.Nb,∀ s∈t.Ng,YZ p s=true
 nd:∀ t∈x.Nb,t.Ng.Nodup
 dj:∀ i j (hi:i < x.Nb.length) (hj:j < x.Nb.length),i≠j->∀ s∈x.Nb[i].Ng,s∉x.Nb[j].Ng
 ld:∀ t∈x.Nb,∀ k (hk:k+1 < t.Ng.length),Qkv p x.Na t.Ng[k] t.Ng[k+1]=true
theorem Qyr:∀ (n:Nat) (l:List Int),l.Nodup->(∀ s∈l,0<=s/\s < (n:Int))->l.length<=n
  | 0,l,_,h=>by
    cases l with
    | nil=>simp
    | cons x xs=>have:=h x (by simp);omega
  | n+1,l,hn,h=>by
    have h1:=Qyr n (l.filter fun s=>decide (s≠(n:Int))) (hn.filter _) fun s hs=>by
      rw [List.mem_filter] at hs;have:=h s hs.1;have:=hs.2;simp at this;omega
    have h2:l.length<=(l.filter fun s=>decide (s≠(n:Int))).length+1:=by
      clear h h1
      induction l with
      | nil=>simp
      | cons x xs ih =>
        rw [List.nodup_cons] at hn;by_cases hx:x=(n:Int)
        · have : xs.filter (fun s => decide (s ≠ (n : Int))) = xs := by
            rw [List.filter_eq_self];intro a ha;simp only [ne_eq,decide_not,Bool.not_eq_true',decide_eq_false_iff_not];intro e;subst hx;subst e;exact hn.1 ha
          rw [List.filter_cons_of_neg (by simp [hx]),this];simp
        · rw [List.filter_cons_of_pos (by simp [hx])];have:=ih hn.2;simp only [List.length_cons];omega
    omega
theorem StateOk.len {p:Nd} {x:Nf} (h:StateOk p x) {t:Nl} (ht:t∈x.Nb):t.Ng.length<=p.Nc.length :=
 Qyr _ _ (h.nd t ht) fun s hs=>by
  have:=h.sc t ht s hs;unfold YZ at this;simp at this;omega
theorem StateOk.s {p:Nd} (hp:PlantOk p) {x:Nf} (h:StateOk p x):StateS x :=
 ⟨by have:=h.sw;have:=hp.w4;omega,by have:=h.tr;have:=hp.t3;omega,fun t ht=>by have:=h.len ht;have:=hp.s8;omega⟩
end Go.Gw

end
section
set_option maxRecDepth 4096
namespace Go.Gw
open Go
attribute [local irreducible] loop
theorem liesB_iff {p:Nd} {sw:List Int} {r:Nm} {secs:List Int}:ZX p sw r secs=true↔∀ k (h1:k < p.Na.length) (h2:k < r.Nq.length) (h3:k < sw.length),p.Na[k].Np∈secs->r.Nq[k]=sw[k]:=by
  unfold ZX;rw [Bool.not_eq_true',List.any_eq_false];constructor
  · intro h k h1 h2 h3 hm;have:=h (p.Na[k],(r.Nq[k],sw[k])) (by
      rw [List.mem_iff_getElem];exact ⟨k,by simp only [List.length_zip];omega,by simp only [List.getElem_zip]⟩)
    simp only [Qhl,hm,decide_true,Bool.true_and,Bool.not_eq_true',decide_eq_false_iff_not,Decidable.not_not] at this;exact this
  · intro h q hq;obtain ⟨k,hk,rfl⟩:=List.getElem_of_mem hq;simp only [List.length_zip] at hk;simp only [List.getElem_zip,Qhl,Bool.and_eq_true,decide_eq_true_eq,Bool.not_eq_true',decide_eq_false_iff_not,not_and,Decidable.not_not];exact fun hm=>h k (by omega) (by omega) (by omega) hm
theorem QIz {p:Nd} {sw:List Int} {r:Nm} {a b:List Int} (h:ZX p sw r a=true) (hs:∀ s∈b,s∈a):ZX p sw r b=true :=
 liesB_iff.2 fun k h1 h2 h3 hm=>liesB_iff.1 h k h1 h2 h3 (hs _ hm)
theorem QJa {p:Nd} {sw:List Int} {r:Nm} {a:List Int} {i:Nat} {v:Int} (hi:∀ h:i < p.Na.length,p.Na[i].Np∉a) (h:ZX p sw r a=true):ZX p (sw.set i v) r a=true :=
 liesB_iff.2 fun k h1 h2 h3 hm=>by
  have hne:i≠k:=fun e=>by subst e;exact hi h1 hm
  rw [List.getElem_set_ne hne];exact liesB_iff.1 h k h1 h2 (by simpa using h3) hm
theorem leadsB_iff {p:Nd} {sw:List Int} {a b:Int}:Qkv p sw a b=true↔∃ r∈p.Nh,Qma r a b=true/\ZX p sw r [a,b]=true:=by
 unfold Qkv;rw [List.any_eq_true];simp only [Bool.and_eq_true]
theorem Qtr {x:Nf} {s:Int} (h:Zj x s=false):∀ t∈x.Nb,s∉t.Ng:=by
 unfold Zj at h;rw [List.any_eq_false] at h;intro t ht hm;exact h t ht (decide_eq_true hm)
theorem Qga {p:Nd} {x:Nf} (h:StateOk p x) {a:Nat} (ha:a < x.Nb.length) {t:Nl} (h1:(t.Ng=[]/\t.Nk=0)\/(1<=t.Nk/\t.Nk<=t.Ng.length)) (h2:∀ s∈t.Ng,YZ p s=true) (h3:t.Ng.Nodup)
  (h4:∀ j (hj:j < x.Nb.length),j≠a->∀ s∈t.Ng,s∉x.Nb[j].Ng) (h5:∀ k (hk:k+1 < t.Ng.length),Qkv p x.Na t.Ng[k] t.Ng[k+1]=true):StateOk p ⟨x.Na,x.Nb.set a t,x.Ni⟩:=by
 have hm:∀ u∈x.Nb.set a t,u=t\/u∈x.Nb:=fun u hu=>by
  rcases List.mem_or_eq_of_mem_set hu with h | h
  ·exact .inr h
  ·exact .inl h
 refine ⟨h.sw,by simpa using h.tr,h.pos,h.cnt,fun u hu=>?_,fun u hu=>?_,fun u hu=>?_,fun i j hi hj hij s hs=>?_,fun u hu=>?_⟩
 ·rcases hm u hu with rfl | hu
  ·exact h1
  ·exact h.un u hu
 ·rcases hm u hu with rfl | hu
  ·exact h2
  ·exact h.sc u hu
 ·rcases hm u hu with rfl | hu
  ·exact h3
  ·exact h.nd u hu
 ·simp only [List.length_set] at hi hj;simp only [List.getElem_set] at hs ⊢;by_cases h6:a=i
  ·rw [if_pos h6] at hs;rw [if_neg (by omega)];exact h4 j hj (by omega) s hs
  ·rw [if_neg h6] at hs;by_cases h7:a=j
   ·rw [if_pos h7];exact fun hm=>h4 i hi (by omega) s hm hs
   ·rw [if_neg h7];exact h.dj i j hi hj hij s hs
 ·rcases hm u hu with rfl | hu
  ·exact h5
  ·exact h.ld u hu
theorem Qhj {p:Nd} {e:Nj} (h:YT p e=0):0<=e.Kind/\e.Kind<=6:=by
 unfold YT at h;by_cases h1:¬ (0<=e.Kind/\e.Kind<=6)
 ·rw [if_pos h1] at h;cases h
 ·omega
theorem Qpw {p:Nd} {e:Nj} (h:YT p e=0) (hk:e.Kind=2):0<=e.A/\e.A.toNat < p.Na.length/\Qcs e.B=true:=by
 have h1:=Qhj h;unfold YT at h;rw [if_neg (by omega),if_pos hk] at h;cases hb:Qgh p e.A with
 | false=>rw [hb] at h;cases h
 | true =>
  rw [hb] at h;cases hc:Qcs e.B with
  | false=>rw [hc] at h;cases h
  | true =>
   unfold Qgh at hb;simp at hb;exact ⟨hb.1,by omega,rfl⟩
theorem Qpv {p:Nd} {e:Nj} (h:YT p e=0) (hk:e.Kind≠2):0<=e.A/\e.A.toNat < p.Nb.length/\(e.Kind=0->YZ p e.B=true)/\(e.Kind=1->0<=e.B/\e.B.toNat < p.Nh.length)/\(e.Kind≠0->e.Kind≠1->e.B=0):=by
 have h1:=Qhj h;unfold YT at h;rw [if_neg (by omega),if_neg hk] at h;cases hb:Qcy p e.A with
 | false=>rw [hb] at h;cases h
 | true =>
  rw [hb,cond_true] at h;unfold Qcy at hb;simp at hb;refine ⟨hb.1,by omega,fun h0=>?_,fun h0=>?_,fun h0 h2=>?_⟩
  ·rw [if_pos h0] at h;cases hc:YZ p e.B with
   | true=>rfl
   | false=>rw [hc] at h;cases h
  ·rw [if_neg (by omega),if_pos h0] at h;cases hc:Qfy p e.B with
   | false=>rw [hc] at h;cases h
   | true=>unfold Qfy at hc;simp at hc;omega
  ·rw [if_neg h0,if_neg h2] at h;by_cases h3:e.B=0
   ·exact h3
   ·rw [if_neg h3] at h;cases h
theorem Qgl {x:Nf} {e:Nj} (h:e.A.toNat < x.Nb.length):ZH x e=x.Nb[e.A.toNat]:=by
 unfold ZH;rw [List.getElem?_eq_getElem h];rfl
theorem Qtq {p:Nd} {e:Nj} (h:e.A.toNat < p.Na.length):Qec p e=p.Na[e.A.toNat]:=by
 unfold Qec;rw [List.getElem?_eq_getElem h];rfl
theorem Qii {p:Nd} {e:Nj} (h:e.B.toNat < p.Nh.length):J1 p e=p.Nh[e.B.toNat]:=by
 unfold J1;rw [List.getElem?_eq_getElem h];rfl
theorem Qtl {p:Nd} (hp:PlantOk p) {x:Nf} (h:StateOk p x) {e:Nj} (he:YT p e=0) (hs:Y5 p x e=0):StateOk p (Ye p x e):=by
  have hk:=Qhj he;unfold Ye;by_cases h2:e.Kind=2
  · rw [if_pos h2];obtain ⟨a0,a1,a2⟩:=Qpw he h2;unfold Y5 at hs;rw [if_pos h2] at hs;have hn:Zj x (Qec p e).Np=false:=by
      cases hb:Zj x (Qec p e).Np with
      | false=>rfl
      | true=>rw [hb] at hs;cases hs
    rw [Qtq a1] at hn;refine ⟨by simpa using h.sw,h.tr,fun n hn=>?_,h.cnt,h.un,h.sc,h.nd,h.dj,fun t ht k hk=>?_⟩
    · rcases List.mem_or_eq_of_mem_set hn with h3 | rfl
      · exact h.pos n h3
      · exact a2
    · obtain ⟨r,hr,h3,h4⟩:=leadsB_iff.1 (h.ld t ht k hk);refine leadsB_iff.2 ⟨r,hr,h3,QJa (fun hi hm=>?_) h4⟩;have h5:=Qtr hn t ht;rcases List.mem_cons.1 hm with e1 | hm
      · rw [e1] at h5;exact h5 (List.getElem_mem _)
      · rw [List.mem_singleton.1 hm] at h5;exact h5 (List.getElem_mem _)
  rw [if_neg h2];obtain ⟨a0,a1,a2,a3,a4⟩:=Qpv he h2;have ha:e.A.toNat < x.Nb.length:=by rw [h.tr];exact a1
  have ht:ZH x e∈x.Nb:=by rw [Qgl ha];exact List.getElem_mem ha
  have hd:∀ j (hj:j < x.Nb.length),j≠e.A.toNat->∀ s∈(ZH x e).Ng,s∉x.Nb[j].Ng:=fun j hj hne s hs=>by
    rw [Qgl ha] at hs;exact h.dj _ j ha hj (by omega) s hs
  have hu:=h.un _ ht;have hsc:=h.sc _ ht;have hnd:=h.nd _ ht;have hld:=h.ld _ ht;unfold Y5 at hs;rw [if_neg h2] at hs;unfold trX;generalize ZH x e=t at *
  by_cases h0:e.Kind=0
  · rw [if_pos h0] at hs;rw [if_pos h0];by_cases hc:t.Ng.length=0
    · rw [if_pos hc] at hs;have hn:Zj x e.B=false:=by
        cases hb:Zj x e.B with
        | false=>rfl
        | true=>rw [hb] at hs;cases hs
      refine Qga h ha (.inr (by simp)) (fun s hs=>?_) (by simp) (fun j hj hne s hs hm=>?_) (fun k hk=>?_)
      · simp only [List.mem_singleton] at hs;subst hs;exact a2 h0
      · simp only [List.mem_singleton] at hs;subst hs;exact Qtr hn _ (List.getElem_mem hj) hm
      · simp at hk
    · rw [if_neg hc] at hs;cases hs
  rw [if_neg h0] at hs;rw [if_neg h0];by_cases hc:t.Ng.length=0
  · rw [if_pos hc] at hs;cases hs
  rw [if_neg hc] at hs;have hu2:1<=t.Nk/\t.Nk<=t.Ng.length:=by
    rcases hu with ⟨h3,_⟩ | h3
    · rw [h3] at hc;exact absurd rfl hc
    · exact h3
  by_cases h1:e.Kind=1
  · rw [if_pos h1] at hs;rw [if_pos h1];obtain ⟨b0,b1⟩:=a3 h1;have hr:J1 p e∈p.Nh:=by rw [Qii b1];exact List.getElem_mem b1
    generalize J1 p e=r at *
    by_cases h3:r.Nc.head?=t.Ng.getLast?
    · rw [if_pos h3] at hs;have hn:(r.Nc.drop 1).any (Zj x)=false:=by
        cases hb:(r.Nc.drop 1).any (Zj x) with
        | false=>rfl
        | true=>rw [hb] at hs;cases hs
      have hl:ZX p x.Na r r.Nc=true:=by
        rw [hn] at hs;cases hb:ZX p x.Na r r.Nc with
        | true=>rfl
        | false=>rw [hb] at hs;cases hs
      rw [List.any_eq_false] at hn;have hn2:∀ s∈r.Nc.drop 1,∀ u∈x.Nb,s∉u.Ng:=fun s hs=>Qtr (by have:=hn s hs;simpa using this)
      have h2r:=hp.r2 r hr;have hlast:∀ hi:t.Ng.length - 1 < t.Ng.length,∀ hj:0 < r.Nc.length,t.Ng[t.Ng.length - 1]=r.Nc[0]:=fun hi hj=>by
        rw [List.head?_eq_getElem?,List.getLast?_eq_getElem?,List.getElem?_eq_getElem hj,List.getElem?_eq_getElem hi] at h3;exact (Option.some.inj h3).symm
      refine Qga h ha (.inr ?_) (fun s hs=>?_) ?_ (fun j hj hne s hs=>?_) (fun k hk=>?_)
      · simp only [List.length_append];omega
      · rcases List.mem_append.1 hs with h4 | h4
        · exact hsc s h4
        · exact hp.rs r hr s (List.mem_of_mem_drop h4)
      · show (t.Ng++r.Nc.drop 1).Nodup;rw [List.nodup_append];refine ⟨hnd,List.Nodup.sublist (List.drop_sublist _ _) (hp.rd r hr),fun s hs u hu e=>?_⟩;subst e;exact hn2 s hu t ht hs
      · rcases List.mem_append.1 hs with h4 | h4
        · exact hd j hj hne s h4
        · exact hn2 s h4 _ (List.getElem_mem hj)
      · simp only [List.length_append,List.length_drop] at hk;by_cases h5:k+1 < t.Ng.length
        · simp only [List.getElem_append,h5,dif_pos,show k < t.Ng.length by omega];exact hld k h5
        · have e2 : (t.Ng ++ r.Nc.drop 1)[k + 1]'(by simp only [List.length_append, List.length_drop]; omega) = r.Nc[k + 1 - t.Ng.length + 1]'(by omega) := by
            rw [List.getElem_append_right (by omega),List.getElem_drop];congr 1;omega
          have e1:(t.Ng++r.Nc.drop 1)[k]'(by simp only [List.length_append, List.length_drop];omega)=r.Nc[k+1 - t.Ng.length]'(by omega) := by
            by_cases h6:k+1=t.Ng.length
            · rw [List.getElem_append_left (show k < t.Ng.length by omega)];have:=hlast (by omega) (by omega);simp only [show k+1 - t.Ng.length=0 by omega,<-this];congr 1;omega
            · rw [List.getElem_append_right (by omega),List.getElem_drop];congr 1;omega
          rw [e1,e2];refine leadsB_iff.2 ⟨r,hr,pairB_iff.2 ⟨k+1 - t.Ng.length,by omega,rfl,rfl⟩,QIz hl fun s hs=>?_⟩;rcases List.mem_cons.1 hs with rfl | hs
          · exact List.getElem_mem _
          · rw [List.mem_singleton.1 hs];exact List.getElem_mem _
    · rw [if_neg h3] at hs;cases hs
  rw [if_neg h1] at hs;rw [if_neg h1];by_cases h4:e.Kind=4
  · rw [if_pos h4] at hs;rw [if_neg (by omega),if_pos h4];have hx:1 < t.Nk:=by
      by_cases h5:1 < t.Nk
      · exact h5
      · rw [if_neg h5] at hs;cases hs
    refine Qga h ha (.inr ?_) (fun s hs=>hsc s (List.mem_of_mem_drop hs)) (List.Nodup.sublist (List.drop_sublist _ _) hnd) (fun j hj hne s hs=>hd j hj hne s (List.mem_of_mem_drop hs)) (fun k hk=>?_)
    · simp only [List.length_drop];omega
    · simp only [List.length_drop] at hk;simp only [List.getElem_drop];have:=hld (1+k) (by omega);exact this
  rw [if_neg h4] at hs;rw [show (if e.Kind=4 then (⟨t.Ng.drop 1,t.Nk - 1⟩:Nl) else if e.Kind=5 then ⟨t.Ng.take (t.Ng.length - 1),t.Nk⟩ else ⟨[],0⟩)=(if e.Kind=5 then ⟨t.Ng.take (t.Ng.length - 1),t.Nk⟩ else ⟨[],0⟩) from if_neg h4];by_cases h35:e.Kind=3\/e.Kind=5
  · rw [if_pos h35] at hs;have hx:t.Nk < t.Ng.length:=by
      by_cases h5:t.Nk < t.Ng.length
      · exact h5
      · rw [if_neg h5] at hs;cases hs
    by_cases h3:e.Kind=3
    · rw [if_pos h3];exact Qga h ha (.inr ⟨by show 1<=t.Nk+1;omega,by show t.Nk+1<=(t.Ng.length:Int);omega⟩) hsc hnd hd hld
    · rw [if_neg h3,if_pos (by omega)];refine Qga h ha (.inr ?_) (fun s hs=>hsc s (List.mem_of_mem_take hs)) (List.Nodup.sublist (List.take_sublist _ _) hnd) (fun j hj hne s hs=>hd j hj hne s (List.mem_of_mem_take hs)) (fun k hk=>?_)
      · simp only [List.length_take];omega
      · simp only [List.length_take] at hk;simp only [List.getElem_take];exact hld k (by omega)
  · rw [if_neg (by omega),if_neg (by omega)];exact Qga h ha (.inl ⟨rfl,rfl⟩) (fun s hs=>by simp at hs) (by simp) (fun j hj hne s hs=>by simp at hs) (fun k hk=>by simp at hk)
end Go.Gw

end
section
set_option maxRecDepth 4096
namespace Go.Gw
open Go
attribute [local irreducible] loop
end Go.Gw

end
section
set_option maxRecDepth 4096
namespace Go.Gw
open Go
attribute [local irreducible] loop
theorem Qwl {a b:List Int} (ha:0 < a.length) (hb:0 < b.length):decide (a[0]=b[b.length - 1])=decide (a.head?=b.getLast?):=by
 rw [List.head?_eq_getElem?,List.getLast?_eq_getElem?,List.getElem?_eq_getElem ha,List.getElem?_eq_getElem (show b.length - 1 < b.length by omega)];simp only [Option.some.injEq]
theorem QDp {p:Nd} (hp:PlantOk p) {x:Nf} (h:StateOk p x) {e:Nj} (he:YT p e=0) :
    Runs (Qhn (some ⟨p,x⟩) e) fun r=>r.2=Y5 p x e/\(Y5 p x e=0->r.1=some ⟨p,Ye p x e⟩):=by
  have hs:=h.s hp;have hw4:=hp.w4;have ht3:=hp.t3;have hkd:=Qhj he;have hsl:=h.sw;have htl:=h.tr;unfold Qhn;by_cases h2:e.Kind=2
  · obtain ⟨a0,a1,a2⟩:=Qpw he h2;have e1:Y5 p x e=(bif Zj x (Qec p e).Np then 17 else 0):=by unfold Y5;rw [if_pos h2]
    have e2:Ye p x e=⟨x.Na.set e.A.toNat e.B,x.Nb,x.Ni⟩:=by unfold Ye;rw [if_pos h2]
    rw [e1,e2,Qtq a1,decide_eq_true h2,cond_true,Qt];show Runs (Option.bind (idx p.Na e.A) _) _;rw [Qbn a0 a1,Qt,Qts p hs _ (by simp),Qt];simp only [List.any_cons,List.any_nil,Bool.or_false];cases Zj x p.Na[e.A.toNat].Np with
    | true=>exact Runs.some ⟨rfl,fun hh=>by cases hh⟩
    | false =>
      simp only [cond_false];rw [QEl _ (by show x.Na.length < _;omega),Qt];show Runs (Option.bind (idx x.Na e.A) _) _;rw [Qbn a0 (by omega),Qt];exact Runs.some ⟨rfl,fun _=>rfl⟩
  obtain ⟨a0,a1,a2,a3,a4⟩:=Qpv he h2;have ha:e.A.toNat < x.Nb.length:=by omega
  have htm:ZH x e∈x.Nb:=by rw [Qgl ha];exact List.getElem_mem ha
  have hcl:=h.len htm;have hs8:=hp.s8;have hu:=h.un _ htm;have e2:Ye p x e=⟨x.Na,x.Nb.set e.A.toNat (trX p (ZH x e) e),x.Ni⟩:=by unfold Ye;rw [if_neg h2]
  have hnx:=fun c u=>QLh p x a0 ha (by omega) c u
  rw [e2,decide_eq_false h2,cond_false,Qt];show Runs (Option.bind (idx x.Nb e.A) _) _;rw [Qbn a0 ha,Qt,<-Qgl ha];unfold Y5 trX;simp only [if_neg h2];generalize ZH x e=t at *
  by_cases h0:e.Kind=0
  · simp only [if_pos h0,decide_eq_true h0,cond_true];rw [ZQ,Qt,Qts p hs _ (by simp),Qt,ZQ,Qt,Qbl _ (by simp),Qt,Qt];simp only [List.any_cons,List.any_nil,Bool.or_false,QHq];by_cases hc:t.Ng.length=0
    · simp only [hc,Int.natCast_zero,decide_true,cond_true,ne_eq,not_true_eq_false,if_false,if_true];cases Zj x e.B with
      | true=>exact Runs.some ⟨rfl,fun hh=>by cases hh⟩
      | false =>
        simp only [Bool.not_false,cond_true,decide_true,Bool.not_true,cond_false];rw [hnx,Qt];exact Runs.some ⟨rfl,fun _=>rfl⟩
    · rw [if_neg hc,decide_eq_false (show ¬ (t.Ng.length:Int)=0 by omega)];exact Runs.some ⟨rfl,fun hh=>by cases hh⟩
  simp only [if_neg h0,decide_eq_false h0,cond_false];by_cases hc:t.Ng.length=0
  · rw [decide_eq_true (show (t.Ng.length:Int)=0 by omega),if_pos hc];exact Runs.some ⟨rfl,fun hh=>by cases hh⟩
  rw [decide_eq_false (show ¬ (t.Ng.length:Int)=0 by omega),cond_false,ZQ,Qt,if_neg hc];have hu2:1<=t.Nk/\t.Nk<=t.Ng.length:=by
    rcases hu with ⟨h3,_⟩ | h3
    · rw [h3] at hc;exact absurd rfl hc
    · exact h3
  by_cases h1:e.Kind=1
  · simp only [if_pos h1,decide_eq_true h1,cond_true];obtain ⟨b0,b1⟩:=a3 h1;rw [show (⟨p,x⟩:Nt).Nw.Nh=p.Nh from rfl,Qbn b0 b1,Qt,<-Qii b1];have hr:J1 p e∈p.Nh:=by rw [Qii b1];exact List.getElem_mem b1
    generalize J1 p e=r at *
    have hr2:=hp.r2 r hr;have hr8:=hp.r8 r hr;have hrn:=hp.rn r hr;rw [Qhe (by omega),Qt,show (0:Int)=((0:Nat):Int) from rfl,Xw (show 0 < r.Nc.length by omega),Qt,
      show w64 ((t.Ng.length:Int) - 1)=((t.Ng.length - 1:Nat):Int) by rw [YS (by omega)];omega,Xw (show t.Ng.length - 1 < t.Ng.length by omega),Qt,ZQ,Qt,
      Qts p hs _ (by simp;omega),Qt,ZQ,Qt,QJb hrn hsl (by omega) (by omega),Qt,ZQ,Qt,Qbl _ (by simp),Qt,Qwl (by omega) (by omega),QHr]
    by_cases h3:r.Nc.head?=t.Ng.getLast?
    · simp only [h3,decide_true,cond_true,Int.natCast_zero,ne_eq,not_true_eq_false,if_false,if_true];cases hb:(r.Nc.drop 1).any (Zj x) with
      | true=>exact Runs.some ⟨rfl,fun hh=>by cases hh⟩
      | false =>
        cases hl:ZX p x.Na r r.Nc with
        | false=>exact Runs.some ⟨rfl,fun hh=>by cases hh⟩
        | true =>
          simp only [Bool.not_false,cond_true,Int.natCast_zero,not_true_eq_false,if_false,decide_true,Bool.not_true,cond_false];rw [QEq _ _ (by omega) (by simp;omega),Qt,hnx,Qt];exact Runs.some ⟨rfl,fun _=>rfl⟩
    · simp only [h3,decide_false,cond_false,if_false];exact Runs.some ⟨rfl,fun hh=>by cases hh⟩
  simp only [if_neg h1,decide_eq_false h1,cond_false];by_cases h3:e.Kind=3
  · simp only [if_pos h3,decide_eq_true h3,cond_true];rw [if_neg (by omega),if_pos (.inl h3),hnx,Qt,YS (by omega)];by_cases h5:t.Nk < t.Ng.length
    · rw [if_pos h5,decide_eq_true h5];exact Runs.some ⟨rfl,fun _=>rfl⟩
    · rw [if_neg h5,decide_eq_false h5];exact Runs.some ⟨rfl,fun hh=>by cases hh⟩
  simp only [if_neg h3,decide_eq_false h3,cond_false];by_cases h4:e.Kind=4
  · simp only [if_pos h4,decide_eq_true h4,cond_true];rw [Qhe (by omega),Qt,hnx,Qt,ZQ,Qt,YS (by omega)];by_cases h5:1 < t.Nk
    · rw [if_pos h5,decide_eq_true h5];exact Runs.some ⟨rfl,fun _=>rfl⟩
    · rw [if_neg h5,decide_eq_false h5];exact Runs.some ⟨rfl,fun hh=>by cases hh⟩
  simp only [if_neg h4,decide_eq_false h4,cond_false];by_cases h5:e.Kind=5
  · simp only [if_pos h5,decide_eq_true h5,cond_true];rw [if_pos (.inr h5),show w64 ((t.Ng.length:Int) - 1)=((t.Ng.length - 1:Nat):Int) by rw [YS (by omega)];omega,Qev (by omega),Qt,hnx,Qt];by_cases h6:t.Nk < t.Ng.length
    · rw [if_pos h6,decide_eq_true h6];exact Runs.some ⟨rfl,fun _=>rfl⟩
    · rw [if_neg h6,decide_eq_false h6];exact Runs.some ⟨rfl,fun hh=>by cases hh⟩
  simp only [if_neg h5,decide_eq_false h5,cond_false];rw [if_neg (by omega),hnx,Qt,ZQ,Qt];by_cases h6:t.Ng.length=1
  · rw [if_pos h6,decide_eq_true (by omega)];exact Runs.some ⟨rfl,fun _=>rfl⟩
  · rw [if_neg h6,decide_eq_false (by omega)];exact Runs.some ⟨rfl,fun hh=>by cases hh⟩
/-! ### The beginning, copies -/
def YE (p:Nd):Nf:=⟨List.replicate p.Na.length 0,List.replicate p.Nb.length ⟨[],0⟩,0⟩
theorem Qlp {α:Type} (n:Nat) (z:α) (h:n<=1000):mk (n:Int) z=some (List.replicate n z):=by
 unfold mk;rw [if_pos (by omega),Int.toNat_natCast]
theorem QDw {p:Nd} (h:PlantS p):Qhm p=some (YE p):=by
 have h1:=h.sw;have h2:=h.tr;unfold Qhm;rw [Qlp _ _ (by omega),Qt,Qlp _ _ (by omega),Qt];rfl
theorem Qve {p:Nd}:StateOk p (YE p):=by
 refine ⟨by simp [YE],by simp [YE],fun n hn=>?_,by rfl,fun t ht=>?_,fun t ht s hs=>?_,fun t ht=>?_,fun i j hi hj _ s hs=>?_,fun t ht k hk=>?_⟩
 ·rw [(List.mem_replicate.1 hn).2];rfl
 ·rw [(List.mem_replicate.1 ht).2];exact .inl ⟨rfl,rfl⟩
 ·rw [(List.mem_replicate.1 ht).2] at hs;cases hs
 ·rw [(List.mem_replicate.1 ht).2];exact List.nodup_nil
 ·simp only [YE,List.getElem_replicate] at hs;cases hs
 ·rw [(List.mem_replicate.1 ht).2] at hk;simp at hk
end Go.Gw

end
section
set_option maxRecDepth 4096
namespace Go.Gw
open Go
attribute [local irreducible] loop
def evE (p:Nd) (x:Nf) (e:Nj):Int:=if YT p e=0 then Y5 p x e else YT p e
def evs (p:Nd):Nf->Nat->List Nj->Nf⊕(Nat×Int)
 | x,_,[]=>.inl x
 | x,k,e::l=>if evE p x e=0 then evs p (Ye p x e) (k+1) l else .inr (k,evE p x e)
end Go.Gw

end
section
set_option maxRecDepth 4096
namespace Go.Gw
open Go
attribute [local irreducible] loop
theorem Qfo {σ β ρ:Type} {step:σ->Option (σ⊕ρ)} (n M:Nat) (f:Nat->List β) (S:Nat->List β->σ) (o:List β->ρ) (acc0:List β) (hf:∀ k,k < n->(f k).length<=M)
  (hs:∀ k,k < n->∀ acc:List β,acc.length<=acc0.length+k * M->step (S k acc)=some (.inl (S (k+1) (acc++f k)))) (he:∀ acc,step (S n acc)=some (.inr (o acc))) :
  loop step (S 0 acc0)=some (o (acc0++(List.range n).flatMap f))/\(acc0++(List.range n).flatMap f).length<=acc0.length+n * M:=by
 have key:∀ k,k<=n->(acc0++(List.range k).flatMap f).length<=acc0.length+k * M/\loop step (S 0 acc0)=loop step (S k (acc0++(List.range k).flatMap f)):=by
  intro k
  induction k with
  | zero=>intro _;exact ⟨by simp,by simp⟩
  | succ k ih =>
   intro hk;obtain ⟨h1,h2⟩:=ih (by omega);have e:acc0++(List.range (k+1)).flatMap f=acc0++(List.range k).flatMap f++f k:=by
    rw [List.range_succ,List.flatMap_append,List.append_assoc];simp
   refine ⟨?_,?_⟩
   ·rw [e,List.length_append];have:=hf k (by omega);rw [Nat.succ_mul];omega
   ·rw [h2,Qao (hs k (by omega) _ h1),e]
 obtain ⟨h1,h2⟩:=key n (Nat.le_refl n);exact ⟨by rw [h2];exact JW (he _),h1⟩
def Zm (p:Nd) (k:Nat):Nat:=if k=2 then p.Na.length else p.Nb.length
def YN (p:Nd) (k:Nat):Nat:=if k=0 then p.Nc.length else if k=1 then p.Nh.length else if k=2 then 2 else 1
def X9 (k a b:Nat):Nj:=⟨(k:Int),(a:Int),(b:Int)⟩
def Ya (p:Nd):List Nj:=(List.range 7).flatMap fun k=>(List.range (Zm p k)).flatMap fun a=>(List.range (YN p k)).flatMap fun b=>[X9 k a b]
def Y4 (p:Nd) (x:Nf):List Nj:=(Ya p).filter fun e=>decide (Y5 p x e=0)
theorem Qhi {p:Nd} {k a b:Nat} (hk:k < 7):YT p (X9 k a b)=0↔a < Zm p k/\b < YN p k:=by
 unfold YT X9 Zm YN Qgh Qcy YZ Qfy Qcs;simp only;rw [if_neg (by omega)];by_cases h2:k=2
 ·subst h2;simp only [Int.cast_ofNat_Int,if_true,show ¬ (2=0) by omega,show ¬ (2=1) by omega,if_false];by_cases ha:a < p.Na.length
  ·rw [decide_eq_true (show (0:Int)<=a by omega),decide_eq_true (show (a:Int)<=(p.Na.length:Int) - 1 by omega)];by_cases hb:b < 2
   ·rw [show (decide ((b:Int)=0)||decide ((b:Int)=1))=true by simp only [Bool.or_eq_true,decide_eq_true_eq];omega];simp [ha,hb]
   ·rw [decide_eq_false (show ¬ (b:Int)=0 by omega),decide_eq_false (show ¬ (b:Int)=1 by omega)];simp [hb]
  ·rw [decide_eq_false (show ¬ (a:Int)<=(p.Na.length:Int) - 1 by omega),Bool.and_false];simp [ha]
 ·rw [if_neg (show ¬ (k:Int)=2 by omega),if_neg h2];by_cases ha:a < p.Nb.length
  ·rw [decide_eq_true (show (0:Int)<=a by omega),decide_eq_true (show (a:Int)<=(p.Nb.length:Int) - 1 by omega)];simp only [Bool.and_self,cond_true,ha,true_and,if_neg h2];by_cases h0:k=0
   ·rw [if_pos (show (k:Int)=0 by omega),if_pos h0];by_cases hb:b < p.Nc.length
    ·rw [decide_eq_true (show (0:Int)<=b by omega),decide_eq_true (show (b:Int)<=(p.Nc.length:Int) - 1 by omega)];simp [hb]
    ·rw [decide_eq_false (show ¬ (b:Int)<=(p.Nc.length:Int) - 1 by omega),Bool.and_false];simp [hb]
   ·rw [if_neg (show ¬ (k:Int)=0 by omega),if_neg h0];by_cases h1:k=1
    ·rw [if_pos (show (k:Int)=1 by omega),if_pos h1];by_cases hb:b < p.Nh.length
     ·rw [decide_eq_true (show (0:Int)<=b by omega),decide_eq_true (show (b:Int)<=(p.Nh.length:Int) - 1 by omega)];simp [hb]
     ·rw [decide_eq_false (show ¬ (b:Int)<=(p.Nh.length:Int) - 1 by omega),Bool.and_false];simp [hb]
    ·rw [if_neg (show ¬ (k:Int)=1 by omega),if_neg h1];by_cases hb:b=0
     ·subst hb;simp
     ·rw [if_neg (by omega)];constructor
      ·intro h;cases h
      ·intro h;omega
  ·rw [decide_eq_false (show ¬ (a:Int)<=(p.Nb.length:Int) - 1 by omega),Bool.and_false];simp [ha]
theorem Qpu {p:Nd} {e:Nj} (h:e∈Ya p):YT p e=0:=by
 unfold Ya at h;simp only [List.mem_flatMap,List.mem_range,List.mem_singleton] at h;obtain ⟨k,hk,a,ha,b,hb,rfl⟩:=h;exact (Qhi hk).2 ⟨ha,hb⟩
def Y6 (p:Nd) (x:Nf) (l:List Nj):List Nr:=(l.filter fun e=>decide (Y5 p x e=0)).map fun e=>Nr.mk e (some ⟨p,Ye p x e⟩)
theorem QAy {p:Nd} {x:Nf} {f:Nat->List Nj}:∀ (l:List Nat),Y6 p x (l.flatMap f)=l.flatMap fun k=>Y6 p x (f k)
 | []=>rfl
 | k::l=>by
  have:=QAy (p:=p) (x:=x) (f:=f) l;unfold Y6 at this ⊢;rw [List.flatMap_cons,List.filter_append,List.map_append,this,List.flatMap_cons]
theorem QSl {p:Nd} {x:Nf} {e:Nj}:(Y6 p x [e]).length<=1:=by
 unfold Y6;rw [List.length_map];exact List.length_filter_le _ _
theorem QOq {p:Nd} (hp:PlantOk p) {x:Nf} (h:StateOk p x):Qfl (some ⟨p,x⟩)=some (Y6 p x (Ya p)):=by
  have hs8:=hp.s8;have ht3:=hp.t3;have hw4:=hp.w4;have hr10:=hp.r10;have hb:∀ k,YN p k<=10:=fun k=>by unfold YN;split<;>(try split)<;>(try split)<;>omega
  have ha:∀ k,Zm p k<=4:=fun k=>by unfold Zm;split<;>omega
  -- the innermost loop
  have l0:∀ k:Nat,k < 7->∀ a:Nat,a < Zm p k->∀ acc:List Nr,acc.length<=1000->loop (Qho (some ⟨p,x⟩) (k:Int) ((YN p k:Nat):Int) (a:Int)) (0,acc)=some (.inr (acc++(List.range (YN p k)).flatMap fun b=>Y6 p x [X9 k a b]))/\(acc++(List.range (YN p k)).flatMap fun b=>Y6 p x [X9 k a b]).length<=acc.length+YN p k * 1 :=
    fun k hk a hka acc hacc=>Qfo (step:=Qho (some ⟨p,x⟩) (k:Int) ((YN p k:Nat):Int) (a:Int)) (YN p k) 1 (fun b=>Y6 p x [X9 k a b]) (fun b acc=>((b:Int),acc)) (fun acc=>.inr acc) acc (fun _ _=>QSl) (fun b hbk acc' hl=>by
      have hb':=hb k;have he:YT p (X9 k a b)=0:=(Qhi hk).2 ⟨hka,hbk⟩;obtain ⟨r,hr,h1,h2⟩:=QDp hp h he;unfold Qho;simp only [XK hbk,cond_true];rw [show (Nj.mk (k:Int) (a:Int) (b:Int))=X9 k a b from rfl,hr,Qt,h1];by_cases h3:Y5 p x (X9 k a b)=0
      · rw [decide_eq_true h3,cond_true,Zl (by simp;omega),Qt,h2 h3,Xs b (by omega)];simp [Y6,h3]
      · rw [decide_eq_false h3,cond_false,Xs b (by omega)];simp [Y6,h3]) (fun acc'=>by
      unfold Qho;simp only [XL];rfl)
  have l1:∀ k:Nat,k < 7->∀ acc:List Nr,acc.length<=500->loop (Qhp (some ⟨p,x⟩) (k:Int) ((Zm p k:Nat):Int) ((YN p k:Nat):Int)) (0,acc)=some (.inr (acc++(List.range (Zm p k)).flatMap fun a=>(List.range (YN p k)).flatMap fun b=>Y6 p x [X9 k a b]))/\(acc++(List.range (Zm p k)).flatMap fun a=>(List.range (YN p k)).flatMap fun b=>Y6 p x [X9 k a b]).length<=acc.length+Zm p k * 10 :=
    fun k hk acc hacc=>Qfo (step:=Qhp (some ⟨p,x⟩) (k:Int) ((Zm p k:Nat):Int) ((YN p k:Nat):Int)) (Zm p k) 10 (fun a=>(List.range (YN p k)).flatMap fun b=>Y6 p x [X9 k a b]) (fun a acc=>((a:Int),acc)) (fun acc=>.inr acc) acc (fun a hka=>by
      have:=(l0 k hk a hka [] (by simp)).2;have:=hb k;simp only [List.nil_append,List.length_nil] at *
      omega) (fun a hka acc' hl=>by
      have ha':=ha k;have hl2:a * 10<=40:=by omega
      unfold Qhp;simp only [XK hka,cond_true];rw [(l0 k hk a hka acc' (by omega)).1,Qt,Xs a (by omega)];rfl) (fun acc'=>by
      unfold Qhp;simp only [XL];rfl)
  have l2 := (Qfo (step := Qlf ⟨p, x⟩ (some ⟨p, x⟩)) (ρ := (List Nr) ⊕ (List Nr)) 7 40 (fun k => (List.range (Zm p k)).flatMap fun a => (List.range (YN p k)).flatMap fun b => Y6 p x [X9 k a b]) (fun k acc => ((k : Int), acc)) (fun acc => .inr acc) [] (fun k hk => by
      have:=(l1 k hk [] (by simp)).2;have:=ha k;simp only [List.nil_append,List.length_nil] at *
      omega) (fun k hk acc hl=>by
      have e:(bif decide ((k:Int)=0) then some (((p.Nb.length:Nat):Int),((p.Nc.length:Nat):Int)) else bif decide ((k:Int)=1) then some (((p.Nb.length:Nat):Int),((p.Nh.length:Nat):Int)) else bif decide ((k:Int)=2) then some (((p.Na.length:Nat):Int),2) else some (((p.Nb.length:Nat):Int),1))=some (((Zm p k:Nat):Int),((YN p k:Nat):Int)):=by
        unfold Zm YN;by_cases h0:k=0
        · subst h0;rfl
        by_cases h1:k=1
        · subst h1;rfl
        by_cases h2:k=2
        · subst h2;rfl
        rw [decide_eq_false (by omega),decide_eq_false (by omega),decide_eq_false (by omega),if_neg h2,if_neg h0,if_neg h1,if_neg h2];rfl
      unfold Qlf;simp only [show decide ((k:Int) < 7)=true by rw [decide_eq_true_eq];omega,cond_true];show Option.bind (bif decide ((k:Int)=0) then some (((p.Nb.length:Nat):Int),((p.Nc.length:Nat):Int)) else bif decide ((k:Int)=1) then some (((p.Nb.length:Nat):Int),((p.Nh.length:Nat):Int)) else bif decide ((k:Int)=2) then some (((p.Na.length:Nat):Int),2) else some (((p.Nb.length:Nat):Int),1)) _=_;rw [e,Qt];simp only;rw [(l1 k hk acc (by simp at hl;omega)).1,Qt,Xs k (by omega)];rfl) (fun acc=>by rfl)).1
  unfold Qfl;rw [Qt];have l3:loop (Qlf ⟨p,x⟩ (some ⟨p,x⟩)) (0,([]:List Nr))=_:=l2;rw [l3,Qt];simp only [XA,List.nil_append];unfold Ya;simp only [QAy]
end Go.Gw

end
section
set_option maxRecDepth 4096
namespace Go.Gw
open Go
attribute [local irreducible] loop
end Go.Gw

end
section
set_option maxRecDepth 4096
namespace Go.Gw
open Go
attribute [local irreducible] loop
end Go.Gw

end
section
set_option maxRecDepth 4096
namespace Go.Gw
open Go
attribute [local irreducible] loop
theorem Qqe (l:List Int) (v:Int) (hl:l.length < 1000000):Qes l v=some (decide (v∈l)):=by
 unfold Qes;rw [ZB l (fun x=>decide (x=v)) (fun _ _=>true),Qt]
 ·rcases JI (p:=fun x=>decide (x=v)) (res:=fun _ _=>true) l 0 with ⟨k1,k2⟩ | ⟨j,x,k1,k2,k3⟩
  ·rw [k1,<-Qux,k2];rfl
  ·rw [k1,<-Qux,k3];rfl
 ·intro k hk;unfold Qoz;rw [XK hk,Xw hk,Xs k (by omega)];rfl
 ·unfold Qoz;rw [XL];rfl
theorem QOa (l:List ByteArray) (s:ByteArray) (hl:l.length < 1000000):Qmp l s=some (Qck (fun x=>decide (x=s)) l):=by
 unfold Qmp Qck;rw [ZB l (fun x=>decide (x=s)) (fun k _=>(k:Int)),Qt,Qgd]
 ·intro k hk;unfold Qsr;rw [XK hk,Xw hk,Xs k (by omega)];rfl
 ·unfold Qsr;rw [XL];rfl
theorem Qlo (l:List ByteArray) (s:ByteArray):(l.any fun x=>decide (x=s))=YL l s:=by
 unfold YL;congr 1;funext x;exact decide_eq_decide.2 eq_comm
theorem Qxv {α:Type} (f:α->ByteArray) (l:List α) (s:ByteArray):(l.any fun x=>decide (f x=s))=YL (l.map f) s:=by
 rw [<-Qlo,List.any_map];rfl
theorem Qzj (l:List ByteArray) (hl:l.length < 1000):Qig l=some (match XY (Zn l) l.length with | some i=>((i:Int),Zn l i) | none=>(0,0)):=by
 unfold Qig;have key:loop (Qif l) 0=_:=Qcm (step:=Qif l) (fun k=>(k:Int)) l.length (Zn l) (fun i e=>((i:Int),e)) () (fun k hk _=>by
  have hs:Zn l k=ZM l[k] (l.take k):=Qam _ _ _ hk;rw [hs];unfold Qif ZM;rw [XK hk,cond_true,Xw hk,Qt,Qov,Qt];cases Qap l[k]
  ·rfl
  ·simp only [Bool.not_true,cond_false,Qt,cond_true];rw [Qev (by omega),Qt,QOa _ _ (by simp;omega),Qt,Qqj,Qlo,Xs k (by omega)];cases YL (l.take k) l[k]<;>rfl) (fun _=>by
  unfold Qif;rw [XL];rfl)
 rw [key,Qt];cases XY (Zn l) l.length<;>rfl
theorem Qtj {α ρ:Type} {step:Int->Option (Int⊕(ρ⊕Unit))} (xs:List α) (n:Nat) (hn:n<=xs.length) (p:α->Bool) (c:ρ)
  (hs:∀ k (hk:k < xs.length),k < n->step (k:Int)=(bif p xs[k] then some (.inr (.inl c)) else some (.inl ((k+1:Nat):Int))))
  (he:step (n:Int)=some (.inr (.inr ()))):loop step 0=some (if (xs.take n).any p=true then .inl c else .inr ()):=by
 have hlen:(xs.take n).length=n:=by simp;omega
 rw [ZB (xs.take n) p (fun _ _=>c) (fun k hk=>by
  rw [hlen] at hk;rw [hs k (by omega) hk];simp only [List.getElem_take]) (by rw [hlen];exact he)]
 rcases JI (p:=p) (res:=fun _ _=>c) (xs.take n) 0 with ⟨k1,k2⟩ | ⟨j,x,k1,k2,k3⟩
 ·rw [k1,k2];rfl
 ·rw [k1,k3];rfl
theorem QPh {p:Nd} (h:PlantS p) (k:Nat) (hk:k < p.Na.length):Qmw p k=some (ZP p k):=by
 have h1:=h.sw;have h2:=h.se;have hs:ZP p k=swE p k p.Na[k]:=Qam _ _ _ hk;have l0:loop (Qmu p.Na[k] (k:Int) p) 0=some (if (p.Na.take k).any (fun o=>decide (o.Name=p.Na[k].Name))=true then .inl 5 else .inr ()) :=
  Qtj p.Na k (by omega) _ _ (fun j hj hjk=>by
   unfold Qmu;rw [XK hjk,cond_true,Xw hj,Qt,Xs j (by omega)]) (by
   unfold Qmu;rw [XL];rfl)
 have l1:loop (Qmv p.Na[k] (k:Int) p) 0=some (if (p.Na.take k).any (fun o=>decide (o.Np=p.Na[k].Np))=true then .inl 26 else .inr ()) :=
  Qtj p.Na k (by omega) _ _ (fun j hj hjk=>by
   unfold Qmv;rw [XK hjk,cond_true,Xw hj,Qt,Xs j (by omega)]) (by
   unfold Qmv;rw [XL];rfl)
 rw [hs];unfold Qmw swE swX ZM;rw [Xw hk,Qt,Qov,Qt,l0,l1,Qxv (fun o:Nu=>o.Name),show Jy p.Na[k].Np 0 (w64 ((p.Nc.length:Int) - 1))=some (YZ p p.Na[k].Np) by rw [Qcd,YS (by omega)];rfl];cases Qap p.Na[k].Name
 ·rfl
 ·cases YL ((p.Na.take k).map (·.Name)) p.Na[k].Name
  ·cases YZ p p.Na[k].Np
   ·rfl
   ·cases (p.Na.take k).any (fun o=>decide (o.Np=p.Na[k].Np))<;>rfl
  ·rfl
theorem Qzi (n:Int):Jy n 0 1=some (Qcs n):=by
 rw [Qcd];congr 1;unfold Qcs;rw [Bool.eq_iff_iff];simp only [Bool.and_eq_true,Bool.or_eq_true,decide_eq_true_eq];omega
theorem QPf {p:Nd} (h:PlantS p) (k:Nat) (hk:k < p.Nh.length):Qmt p k=some (ZO p k):=by
 have h1:=h.ro;have h2:=h.se;have h3:=h.sw;obtain ⟨_,hr,hn⟩:=h.rn _ (List.getElem_mem hk);have hs:ZO p k=rtE p k p.Nh[k]:=Qam _ _ _ hk;have l0:loop (Qmq p.Nh[k] p (k:Int)) 0=some (if (p.Nh.take k).any (fun o=>decide (o.Name=p.Nh[k].Name))=true then .inl 5 else .inr ()) :=
  Qtj p.Nh k (by omega) _ _ (fun j hj hjk=>by
   unfold Qmq;rw [XK hjk,cond_true,Xw hj,Qt,Xs j (by omega)]) (by
   unfold Qmq;rw [XL];rfl)
 rw [hs];unfold Qmt rtE;rw [Xw hk,Qt,Qov,Qt,l0,Qxv (fun o:Nm=>o.Name)];generalize p.Nh[k]=r at hr hn ⊢;have l1:loop (Qmr r p) 0=some (match XY (JH p r) r.Nc.length with | some i=>.inl (JH p r i) | none=>.inr ()) :=
  Qcm (fun k=>(k:Int)) r.Nc.length (JH p r) (fun _ e=>e) () (fun k hk _=>by
   have hs:JH p r k=rsE p r k r.Nc[k]:=Qam _ _ _ hk;rw [hs];unfold Qmr rsE;rw [XK hk,cond_true,Xw hk,Qt,show Jy r.Nc[k] 0 (w64 ((p.Nc.length:Int) - 1))=some (YZ p r.Nc[k]) by rw [Qcd,YS (by omega)];rfl,Qt,Qev (by omega),Qt,Qt,Qqe _ _ (by simp;omega),Qt,Xs k (by omega)];cases YZ p r.Nc[k]<;>cases decide (r.Nc[k]∈r.Nc.take k)<;>rfl) (fun _=>by
   unfold Qmr;rw [XL];rfl)
 have l2:r.Nq.length=p.Na.length->loop (Qms r p) 0=some (YR (JX r) (fun _ _=>(2:Int)) 0 (r.Nq.zip p.Na)):=fun he =>
  ZB (r.Nq.zip p.Na) _ _ (fun k hk=>by
   rw [Qoi he] at hk;unfold Qms;rw [XK hk,cond_true,Xw (show k < p.Na.length by omega),Qt,Qqe _ _ (by omega),Qt,Xw hk,Xs k (by omega)];simp only [List.getElem_zip,JX,Qt,Qzi];cases decide (p.Na[k].Np∈r.Nc)<;>rfl) (by
   rw [Qoi he];unfold Qms;rw [XL];rfl)
 unfold ZM;cases Qap r.Name
 ·rfl
 ·cases YL ((p.Nh.take k).map (·.Name)) r.Name
  ·simp only [Bool.not_true,cond_false,cond_true,Qt,XA,if_true,Bool.false_eq_true,if_false];unfold rtX;by_cases h4:r.Nc.length < 2
   ·rw [if_pos h4,decide_eq_true (show (r.Nc.length:Int) < 2 by omega)];rfl
   rw [if_neg h4,decide_eq_false (show ¬ (r.Nc.length:Int) < 2 by omega)];by_cases h5:p.Nc.length < r.Nc.length
   ·rw [if_pos h5,decide_eq_true (show (p.Nc.length:Int) < r.Nc.length by omega)];rfl
   rw [if_neg h5,decide_eq_false (show ¬ (p.Nc.length:Int) < r.Nc.length by omega),l1];simp only [cond_false,Qt];cases XY (JH p r) r.Nc.length with
   | some i=>rfl
   | none =>
    simp only [XA];by_cases h6:r.Nq.length=p.Na.length
    ·rw [if_pos h6,decide_eq_true (show (r.Nq.length:Int)=p.Na.length by omega),Bool.not_true,cond_false,l2 h6,Qt];rcases JI (p:=JX r) (res:=fun _ _=>(2:Int)) (r.Nq.zip p.Na) 0 with ⟨k1,k2⟩ | ⟨j,x,k1,k2,k3⟩
     ·rw [k1,k2];rfl
     ·rw [k1,k3];rfl
    ·rw [if_neg h6,decide_eq_false (show ¬ (r.Nq.length:Int)=p.Na.length by omega)];rfl
  ·rfl
theorem QOy {p:Nd} (h:PlantS p):Qmf p=some (JY p):=by
  have h3:=h.sw;have h4:=h.ro;have l0:loop (Qmd p) 0=some (match XY (ZP p) p.Na.length with | some i=>.inl (Nn.mk 3 i,ZP p i) | none=>.inr ()) :=
    Qcm (fun k=>(k:Int)) p.Na.length (ZP p) (fun i e=>(Nn.mk 3 i,e)) () (fun k hk _=>by
      unfold Qmd;rw [XK hk,cond_true,QPh h k hk,Qt,Xs k (by omega)];by_cases h1:ZP p k=0
      · rw [if_pos h1,decide_eq_true h1];rfl
      · rw [if_neg h1,decide_eq_false h1];rfl) (fun _=>by
      unfold Qmd;rw [XL];rfl)
  have l1:loop (Qme p) 0=some (match XY (ZO p) p.Nh.length with | some i=>.inl (Nn.mk 4 i,ZO p i) | none=>.inr ()) :=
    Qcm (fun k=>(k:Int)) p.Nh.length (ZO p) (fun i e=>(Nn.mk 4 i,e)) () (fun k hk _=>by
      unfold Qme;rw [XK hk,cond_true,QPf h k hk,Qt,Xs k (by omega)];by_cases h1:ZO p k=0
      · rw [if_pos h1,decide_eq_true h1];rfl
      · rw [if_neg h1,decide_eq_false h1];rfl) (fun _=>by
      unfold Qme;rw [XL];rfl)
  unfold Qmf JY;by_cases h1:p.Nc.length=0\/p.Nb.length=0
  · rw [if_pos h1, show (decide ((p.Nc.length : Int) = 0) || decide ((p.Nb.length : Int) = 0)) = true by
      simp only [Bool.or_eq_true,decide_eq_true_eq];omega]
    rfl
  rw [if_neg h1,decide_eq_false (show ¬ (p.Nc.length:Int)=0 by omega),decide_eq_false (show ¬ (p.Nb.length:Int)=0 by omega)];simp only [Bool.or_self,cond_false];by_cases h2:8 < p.Nc.length\/3 < p.Nb.length\/4 < p.Na.length\/10 < p.Nh.length
  · rw [if_pos h2, show (((decide (8 < (p.Nc.length : Int)) || decide (3 < (p.Nb.length : Int))) || decide (4 < (p.Na.length : Int))) || decide (10 < (p.Nh.length : Int))) = true by
      simp only [Bool.or_eq_true,decide_eq_true_eq];omega]
    rfl
  rw [if_neg h2, show (((decide (8 < (p.Nc.length : Int)) || decide (3 < (p.Nb.length : Int))) || decide (4 < (p.Na.length : Int))) || decide (10 < (p.Nh.length : Int))) = false by
      rw [decide_eq_false (by omega),decide_eq_false (by omega),decide_eq_false (by omega),decide_eq_false (by omega)];rfl]
  rw [cond_false,Qzj _ h.se,Qzj _ h.tr,l0,l1];have hz:∀ {f:Nat->Int} {n i:Nat},XY f n=some i->f i≠0:=fun hf=>(Qfc hf).2.1
  cases h3:XY (Zn p.Nc) p.Nc.length with
  | some i=>simp [hz h3]
  | none =>
    simp only [Qt,decide_true,Bool.not_true,cond_false];cases h4:XY (Zn p.Nb) p.Nb.length with
    | some i=>simp [hz h4]
    | none =>
      simp only [decide_true,Bool.not_true,cond_false];cases h5:XY (ZP p) p.Na.length with
      | some i=>rfl
      | none =>
        simp only [XA];cases h6:XY (ZO p) p.Nh.length with
        | some i=>rfl
        | none=>rfl
theorem Qsm {p:Nd} (h:PlantS p):Qid p=some (JY p).2:=by
 unfold Qid;rw [QOy h];rfl
/-! ### Copies -/
theorem Qdq (l:List Int) (h:l.length < 1000000):Qak l=some l:=by
 unfold Qak;rw [Zl (by simp;omega)];rfl
theorem Qvt (l:List ByteArray) (h:l.length < 1000000):Qgy l=some l:=by
 unfold Qgy;rw [Zl (by simp;omega)];rfl
theorem Qiz {α:Type} (l:List α) (k:Nat) (hk:k < l.length):l.take k++[l[k]]=l.take (k+1):=by
 have:=Qbw l id k hk;simp
theorem QEt {p:Nd} (h:PlantS p):Qmg p=some p:=by
 have h1:=h.se;have h2:=h.tr;have h3:=h.sw;have h4:=h.ro;have hl:=Qln (step:=Qhy p) (o:=p.Nh) (fun k=>((k:Int),p.Nh.take k)) p.Nh.length (fun k hk=>by
  obtain ⟨_,hr,hn⟩:=h.rn _ (List.getElem_mem hk);unfold Qhy;simp only [XK hk,cond_true,Xw hk,Qt];rw [Qdq _ (by omega),Qt,Qdq _ (by omega),Qt,Zl (by simp;omega),Qt,Xs k (by omega),Qiz _ _ hk]) (by
  unfold Qhy;simp only [XL,List.take_length];rfl)
 have hl2:loop (Qhy p) (0,([]:List Nm))=some p.Nh:=hl;unfold Qmg;rw [Qvt _ (by omega),Qt,Qvt _ (by omega),Qt,Zl (by simp;omega),Qt,Qt];simp only [List.nil_append];rw [hl2];rfl
theorem Qvs {x:Nf} (h:StateS x):Qft x=some x:=by
 have h1:=h.sw;have h2:=h.tr;have hl:=Qln (step:=Qhz x) (o:=x.Nb) (fun k=>((k:Int),x.Nb.take k)) x.Nb.length (fun k hk=>by
  unfold Qhz;simp only [XK hk,cond_true,Xw hk,Qt];rw [Qdq _ (by have:=h.ch _ (List.getElem_mem hk);omega),Qt,Zl (by simp;omega),Qt,Xs k (by omega)];show some (Sum.inl (_,x.Nb.take k++[x.Nb[k]]))=_;rw [Qiz _ _ hk]) (by
  unfold Qhz;simp only [XL,List.take_length];rfl)
 have hl2:loop (Qhz x) (0,([]:List Nl))=some x.Nb:=hl;unfold Qft;rw [Qdq _ (by omega),Qt,Qt];simp only;rw [hl2];rfl
theorem QHg (p:Nd):Qfg p=some true/\PlantS p/\(p.Nc.length<=4\/8 < p.Nc.length)\/Qfg p=some false:=by
 unfold Qfg;cases hb:(((((decide (4 < (p.Nc.length:Int))&&decide ((p.Nc.length:Int)<=8))||decide (10 < (p.Nc.length:Int)))||decide (5 < (p.Nb.length:Int)))||decide (6 < (p.Na.length:Int)))||decide (12 < (p.Nh.length:Int))) with
 | true=>exact .inr rfl
 | false =>
  rw [cond_false];simp only [Bool.or_eq_false_iff,Bool.and_eq_false_iff,decide_eq_false_iff_not] at hb;have h1:p.Nc.length < 1000:=by omega
  have h2:p.Nb.length < 1000:=by omega
  have h3:p.Na.length < 1000:=by omega
  have h4:p.Nh.length < 1000:=by omega
  have l0:loop (Qkq p) 0=some (YR (fun s:ByteArray=>decide (20 < (s.size:Int))) (fun _ _=>false) 0 p.Nc):=ZB p.Nc _ _ (fun k hk=>by
   unfold Qkq;rw [XK hk,cond_true,Xw hk,Qt,Xs k (by omega)]) (by unfold Qkq;rw [XL];rfl)
  have l1:loop (Qkr p) 0=some (YR (fun s:ByteArray=>decide (20 < (s.size:Int))) (fun _ _=>false) 0 p.Nb):=ZB p.Nb _ _ (fun k hk=>by
   unfold Qkr;rw [XK hk,cond_true,Xw hk,Qt,Xs k (by omega)]) (by unfold Qkr;rw [XL];rfl)
  have l2:loop (Qks p) 0=some (YR (fun s:Nu=>decide (20 < (s.Name.size:Int))) (fun _ _=>false) 0 p.Na):=ZB p.Na _ _ (fun k hk=>by
   unfold Qks;rw [XK hk,cond_true,Xw hk,Qt,Xs k (by omega)]) (by unfold Qks;rw [XL];rfl)
  have l3:loop (Qkt p) 0=some (YR (fun r:Nm=>decide (20 < (r.Name.size:Int))||(decide (10 < (r.Nc.length:Int))||decide (6 < (r.Nq.length:Int)))) (fun _ _=>false) 0 p.Nh):=ZB p.Nh _ _ (fun k hk=>by
   unfold Qkt;simp only [XK hk,cond_true,Xw hk,Qt,Xs k (show k < 4611686018427387904 by omega)];cases decide (20 < (p.Nh[k].Name.size:Int))<;>cases decide (10 < (p.Nh[k].Nc.length:Int))<;>cases decide (6 < (p.Nh[k].Nq.length:Int))<;>rfl) (by unfold Qkt;rw [XL];rfl)
  rw [l0,l1,l2,l3];simp only [Qt];rcases JI (p:=fun s:ByteArray=>decide (20 < (s.size:Int))) (res:=fun _ _=>false) p.Nc 0 with ⟨k1,k2⟩ | ⟨j,x,k1,k2,k3⟩
  ·rw [k1];rcases JI (p:=fun s:ByteArray=>decide (20 < (s.size:Int))) (res:=fun _ _=>false) p.Nb 0 with ⟨m1,m2⟩ | ⟨j,x,m1,m2,m3⟩
   ·rw [m1];rcases JI (p:=fun s:Nu=>decide (20 < (s.Name.size:Int))) (res:=fun _ _=>false) p.Na 0 with ⟨n1,n2⟩ | ⟨j,x,n1,n2,n3⟩
    ·rw [n1];rcases JI (p:=fun r:Nm=>decide (20 < (r.Name.size:Int))||(decide (10 < (r.Nc.length:Int))||decide (6 < (r.Nq.length:Int)))) (res:=fun _ _=>false) p.Nh 0 with ⟨o1,o2⟩ | ⟨j,x,o1,o2,o3⟩
     ·rw [o1];rw [List.any_eq_false] at k2 m2 n2 o2;refine .inl ⟨rfl,⟨h1,h2,h3,h4,fun s hs=>?_,fun s hs=>?_,fun s hs=>?_,fun r hr=>?_⟩,by omega⟩
      ·have:=k2 s hs;simp at this;omega
      ·have:=m2 s hs;simp at this;omega
      ·have:=n2 s hs;simp at this;omega
      ·have:=o2 r hr;simp at this;omega
     ·rw [o1];exact .inr rfl
    ·rw [n1];exact .inr rfl
   ·rw [m1];exact .inr rfl
  ·rw [k1];exact .inr rfl
end Go.Gw

end
section
set_option maxRecDepth 4096
namespace Go.Gw
open Go
attribute [local irreducible] loop
theorem Qsl {x:Nf} (h:StateS x) (s:Int):Qfu x s=some (Yb x s):=by
 have h1:=h.tr;unfold Qfu Yb Qck;rw [ZB x.Nb (fun t=>decide (s∈t.Ng)) (fun k _=>(k:Int)),Qt,Qgd]
 ·intro k hk;unfold Qso;rw [XK hk,cond_true,Xw hk,Qt,Qqe _ _ (by have:=h.ch _ (List.getElem_mem hk);omega),Qt,Xs k (by omega)]
 ·unfold Qso;rw [XL];rfl
theorem QPg {p:Nd} (h:PlantS p) (n:Int):Qml p n=some (bif YZ p n then 0 else 6):=by
 have:=h.se;unfold Qml;rw [Qcd,YS (by omega),Qt];show (bif !(YZ p n) then _ else _)=_;cases YZ p n<;>rfl
theorem QPi {p:Nd} (h:PlantS p) (n:Int):Qmo p n=some (bif Qcy p n then 0 else 6):=by
 have:=h.tr;unfold Qmo;rw [Qcd,YS (by omega),Qt];show (bif !(Qcy p n) then _ else _)=_;cases Qcy p n<;>rfl
theorem QOz {p:Nd} (h:PlantS p) (e:Nj):Qmh p e=some (YT p e):=by
  have h1:=h.sw;have h2:=h.ro;unfold Qmh YT;rw [Qcd,Qt];by_cases hk:0<=e.Kind/\e.Kind<=6
  · rw [if_neg (by omega),show (decide (0<=e.Kind)&&decide (e.Kind<=6))=true by simp [hk.1,hk.2]];simp only [Bool.not_true,cond_false];by_cases h2:e.Kind=2
    · rw [if_pos h2,decide_eq_true h2,cond_true,Qcd,YS (by omega),Qt,Qzi];show (bif !(Qgh p e.A) then _ else _)=_;cases Qgh p e.A<;>cases Qcs e.B<;>rfl
    · rw [if_neg h2,decide_eq_false h2,cond_false,QPi h,Qt,QPg h,Qt,Qcd,YS (by omega),Qt];cases Qcy p e.A
      · rfl
      simp only [cond_true,decide_true,Bool.not_true,cond_false];by_cases h0:e.Kind=0
      · rw [if_pos h0,decide_eq_true h0];rfl
      · rw [if_neg h0,decide_eq_false h0,cond_false];by_cases h1:e.Kind=1
        · rw [if_pos h1,decide_eq_true h1,cond_true];show (bif !(Qfy p e.B) then _ else _)=_;cases Qfy p e.B<;>rfl
        · rw [if_neg h1,decide_eq_false h1,cond_false];by_cases h3:e.B=0
          · rw [if_pos h3,decide_eq_true h3];rfl
          · rw [if_neg h3,decide_eq_false h3];rfl
  · rw [if_pos hk, show (decide (0 <= e.Kind) && decide (e.Kind <= 6)) = false by
      rw [Bool.and_eq_false_iff,decide_eq_false_iff_not,decide_eq_false_iff_not];omega]
    rfl
/-! ### Which section leads to which -/
/-! ### Which states are right -/
end Go.Gw

end
