/- Laws of the walk. Condition: each theorem says its own. -/
import Derived.Test.YtibgnokgebjbfaaGreatDoorGwTopA
import Derived.Test.YtibgnokgebjbfaaGreatDoorGwLib21
set_option linter.unusedVariables false
set_option linter.unusedSimpArgs false
set_option linter.unusedSectionVars false
section
set_option maxRecDepth 100000
namespace Go.Gw
open Go
theorem QBh:Qow=some true:=by decide +kernel
end Go.Gw

end
section
set_option linter.unusedSectionVars false
namespace Go.Gw
section
variable {α β γ σ ρ:Type}
def Ye (p:α->Bool) (res:Nat->α->ρ):Nat->List α->ρ⊕Unit
 | _,[]=>.inr ()
 | k,x::xs=>if p x then .inl (res k x) else Ye p res (k+1) xs
theorem Y0 {step:Int->Option (Int⊕(ρ⊕Unit))} (xs:List α) (p:α->Bool) (res:Nat->α->ρ)
  (hs:∀ k (hk:k < xs.length),step (k:Int)=(bif p xs[k] then some (.inr (.inl (res k xs[k]))) else some (.inl ((k+1:Nat):Int))))
  (he:step (xs.length:Int)=some (.inr (.inr ()))):loop step 0=some (Ye p res 0 xs):=by
 have key:∀ j k,j+k=xs.length->loop step (k:Int)=some (Ye p res k (xs.drop k)):=by
  intro j
  induction j with
  | zero =>
   intro k hk;obtain rfl:k=xs.length:=by omega
   rw [List.drop_length];exact Qcu he
  | succ j ih =>
   intro k hk;have hlt:k < xs.length:=by omega
   rw [List.drop_eq_getElem_cons hlt];have:=hs k hlt;cases hp:p xs[k] with
   | true=>rw [hp] at this;simp only [Ye,hp,if_true];exact Qcu this
   | false=>rw [hp] at this;simp only [Ye,hp];rw [Qbs this];exact ih (k+1) (by omega)
 have:=key xs.length 0 (by omega);simpa using this

def J1 (f:Nat->γ->α->γ):Nat->γ->List α->γ
 | _,a,[]=>a
 | k,a,x::xs=>J1 f (k+1) (f k a x) xs
theorem Qvs {step:σ->Option (σ⊕β)} (xs:List α) (f:Nat->γ->α->γ) (S:γ->Nat->σ) (o:γ->β) (Inv:γ->Nat->Prop) (a0:γ) (h0:Inv a0 0)
  (hs:∀ k (hk:k < xs.length) a,Inv a k->step (S a k)=some (.inl (S (f k a xs[k]) (k+1)))/\Inv (f k a xs[k]) (k+1))
  (he:∀ a,Inv a xs.length->step (S a xs.length)=some (.inr (o a))):loop step (S a0 0)=some (o (J1 f 0 a0 xs))/\Inv (J1 f 0 a0 xs) xs.length:=by
 have key:∀ j k a,j+k=xs.length->Inv a k->loop step (S a k)=some (o (J1 f k a (xs.drop k)))/\Inv (J1 f k a (xs.drop k)) xs.length:=by
  intro j
  induction j with
  | zero =>
   intro k a hk hI;obtain rfl:k=xs.length:=by omega
   rw [List.drop_length];exact ⟨Qcu (he a hI),hI⟩
  | succ j ih =>
   intro k a hk hI;have hlt:k < xs.length:=by omega
   rw [List.drop_eq_getElem_cons hlt];have:=hs k hlt a hI;rw [Qbs this.1];exact ih (k+1) _ (by omega) this.2
 have:=key xs.length 0 a0 (by omega) h0;simpa using this

theorem XD (k:Nat) (h:k < 4611686018427387904):w64 ((k:Int)+1)=((k+1:Nat):Int):=by rw [Zc (by omega)];omega
theorem XK {k n:Nat} (h:k < n):decide ((k:Int) < (n:Int))=true:=by simp;omega
theorem XM (n:Nat):decide ((n:Int) < (n:Int))=false:=by simp
end
end Go.Gw

end
section
set_option maxRecDepth 4096
namespace Go.Gw
open Go
def Zt:List Int->Int
 | []=>0
 | x::xs=>if x=0 then Zt xs else x
theorem Zs (l:List Int) (hl:l.length < 1073741824):Zu l=some (Zt l):=by
  unfold Zu;rw [Y0 l (fun x=>!decide (x=0)) (fun _ x=>x)]
  · have key : ∀ (l : List Int) k, (Xn (Ye (fun x => !decide (x = 0)) (fun _ x => x) k l) fun (_ : Unit) => some 0) = some (Zt l) := by
      intro l
      induction l with
      | nil=>intro k;rfl
      | cons x xs ih =>
        intro k;by_cases h:x=0
        · simp [Ye,Zt,h];exact ih _
        · simp [Ye,Zt,h,Xn]
    simpa using key l 0
  · intro k hk;unfold Qpg;rw [XK hk,Xr hk,XD k (by omega)];rfl
  · unfold Qpg;rw [XM];rfl
theorem Yq (b:Bool) (e:Int):X4 b e=some (bif b then 0 else e):=by cases b<;>rfl
theorem Qsh (n lo hi:Int):Z7 n lo hi=some (decide (lo<=n)&&decide (n<=hi)):=rfl
theorem QFv (n:Int):Qka n=some (decide (0<=n)&&decide (n<=6)):=rfl
end Go.Gw

end
section
set_option maxRecDepth 4096
namespace Go.Gw
open Go
def Qad (n:Int):Bool:=decide (0<=n)&&decide (n<=250)
end Go.Gw

end
section
set_option maxRecDepth 4096
namespace Go.Gw
open Go
attribute [local irreducible] loop
end Go.Gw

end
section
set_option maxRecDepth 4096
namespace Go.Gw
open Go
attribute [local irreducible] loop
end Go.Gw

end
section
set_option maxRecDepth 4096
namespace Go.Gw
open Go
attribute [local irreducible] loop
theorem Qeq {α:Type} (p:α->Bool):∀ (l:List α) (k:Nat),(Xn (β:=Int) (Ye p (fun k _=>(k:Int)) k l) fun (_:Unit)=>some (-1))=some (match Ye p (fun k _=>(k:Int)) k l with | .inl i=>i | .inr _=>-1)
 | l,k=>by cases Ye p (fun k _=>(k:Int)) k l<;>rfl
theorem Qho {α:Type} (p:α->Bool):∀ (l:List α) (k:Nat),decide (0<=(match Ye p (fun k _=>(k:Int)) k l with | .inl i=>i | .inr _=>(-1:Int)))=l.any p
 | [],k=>by simp [Ye]
 | x::xs,k=>by
  by_cases h:p x=true
  ·simp [Ye,h]
  ·simp only [Ye,h,List.any_cons];have:=Qho p xs (k+1);simpa [h] using this
theorem ZC {α ρ:Type} {p:α->Bool} {res:Nat->α->ρ}:∀ (l:List α) (k:Nat),(Ye p res k l=.inr ()/\l.any p=false)\/∃ j x,Ye p res k l=.inl (res j x)/\p x=true/\l.any p=true
 | [],k=>.inl ⟨rfl,rfl⟩
 | x::xs,k=>by
  by_cases h:p x=true
  ·exact .inr ⟨k,x,by simp [Ye,h],h,by simp [h]⟩
  ·rcases ZC xs (k+1) (p:=p) (res:=res) with ⟨h1,h2⟩ | ⟨j,y,h1,h2,h3⟩
   ·exact .inl ⟨by simp [Ye,h,h1],by simp [h,h2]⟩
   ·exact .inr ⟨j,y,by simp [Ye,h,h1],h2,by simp [h3]⟩
def Xx (f:Nat->Int) (n:Nat):Option Nat:=(List.range n).find? fun i=>decide (f i≠0)
theorem Qjd (f:Nat->Int) (n:Nat):(Xx f n=none/\∀ j,j < n->f j=0)\/∃ i,Xx f n=some i/\i < n/\f i≠0/\∀ j,j < i->f j=0:=by
 cases h:Xx f n with
 | none =>
  refine .inl ⟨rfl,fun j hj=>?_⟩;have:=List.find?_eq_none.1 h j (List.mem_range.2 hj);simpa using this
 | some i =>
  right;obtain ⟨h1,h2,h3⟩:=List.find?_range_eq_some.1 h;exact ⟨i,rfl,List.mem_range.1 h2,by simpa using h1,fun j hj=>by have:=h3 j hj;simpa using this⟩
theorem JQ {σ ρ μ:Type} {step:σ->Option (σ⊕(ρ⊕μ))} (S:Nat->σ) (n:Nat) (f:Nat->Int) (res:Nat->Int->ρ) (o:μ)
  (hs:∀ k,k < n->(∀ j,j < k->f j=0)->step (S k)=if f k=0 then some (.inl (S (k+1))) else some (.inr (.inl (res k (f k))))) (he:(∀ j,j < n->f j=0)->step (S n)=some (.inr (.inr o))) :
  loop step (S 0)=some (match Xx f n with | some i=>.inl (res i (f i)) | none=>.inr o):=by
 rcases Qjd f n with ⟨h1,h2⟩ | ⟨i,h1,h2,h3,h4⟩
 ·rw [h1];exact Qbr S n (fun k hk=>by rw [hs k hk fun j hj=>h2 j (by omega),if_pos (h2 k hk)]) (he h2)
 ·rw [h1];exact Qbr S i (fun k hk=>by rw [hs k (by omega) fun j hj=>h4 j (by omega),if_pos (h4 k hk)]) (by rw [hs i h2 h4,if_neg h3])
/-! ### Names -/
def Qfi (q:Int×Nat):Bool:=(!(((decide (97<=q.1))&&(decide (q.1<=122)))||((decide (65<=q.1))&&(decide (q.1<=90)))))&&((decide ((q.2:Int)=0))||((!decide (q.1=45))&&((decide (q.1 < 48))||(decide (57 < q.1)))))
def bi (s:ByteArray):List Int:=bl s
theorem Qir (s:ByteArray):(bi s).length=s.size:=JZ s
theorem Qum {s:ByteArray} {k:Nat} (h:k < (bi s).length):idx (α:=Int) (bl s) (k:Int)=some (bi s)[k]:=Xr (xs:=bi s) h
def J3 (s:ByteArray):Bool:=decide (1<=s.size)&&(decide (s.size<=12)&&!((bi s).zipIdx.any Qfi))
theorem Qyl (s:ByteArray):s=ByteArray.mk #[]↔s.size=0:=by
 constructor
 ·intro h;subst h;rfl
 ·intro h;cases s with
  | mk d =>
   congr 1;exact Array.eq_empty_of_size_eq_zero h
theorem Qnn (s:ByteArray):Qdn s=some (J3 s):=by
  unfold Qdn J3;have hlen:(bi s).zipIdx.length=s.size:=by rw [List.length_zipIdx,Qir]
  by_cases h:1<=s.size/\s.size<=12
  · have : (decide ((s.size : Int) < 1) || decide (12 < (s.size : Int))) = false := by
      rw [decide_eq_false (by omega),decide_eq_false (by omega)];rfl
    rw [this,cond_false,Y0 (bi s).zipIdx Qfi (fun _ _=>false),Qp]
    · rcases ZC (p:=Qfi) (res:=fun _ _=>false) (bi s).zipIdx 0 with ⟨k1,k2⟩ | ⟨j,x,k1,k2,k3⟩
      · rw [k1,k2];simp [h,Xn]
      · rw [k1,k3];simp [Xn]
    · intro k hk;rw [hlen] at hk;unfold Qnr;rw [XK hk,cond_true,Qum (show k < (bi s).length by rw [Qir];exact hk),Qp,XD k (by omega)];simp only [List.getElem_zipIdx,Nat.zero_add];rfl
    · rw [hlen];unfold Qnr;rw [XM];rfl
  · have : (decide ((s.size : Int) < 1) || decide (12 < (s.size : Int))) = true := by
      by_cases h1:s.size < 1
      · rw [decide_eq_true (by omega)];rfl
      · rw [decide_eq_true (p:=12 < (s.size:Int)) (by omega)];simp
    rw [this,cond_true];congr 1;by_cases h1:1<=s.size
    · rw [decide_eq_false (p:=s.size<=12) (by omega)];simp
    · rw [decide_eq_false h1];rfl
theorem Qor (s:ByteArray) (hs:s.size<=1000):Qdy s=some (J3 s):=by
 unfold Qdy J3;have hlen:(bi s).zipIdx.length=s.size:=by rw [List.length_zipIdx,Qir]
 have ht:tob s=some (bl s):=by unfold tob;rw [if_pos (by omega)]
 rw [ht,Qp,Y0 (bi s).zipIdx Qfi (fun _ _=>false),Qp]
 ·rcases ZC (p:=Qfi) (res:=fun _ _=>false) (bi s).zipIdx 0 with ⟨k1,k2⟩ | ⟨j,x,k1,k2,k3⟩
  ·rw [k1,k2];simp only [Xn,Bool.not_false,Bool.and_true,Option.some.injEq];by_cases h0:s.size=0
   ·rw [decide_eq_true ((Qyl s).2 h0),decide_eq_false (show ¬ 1<=s.size by omega)];rfl
   ·rw [decide_eq_false (fun e=>h0 ((Qyl s).1 e)),decide_eq_true (show 1<=s.size by omega)];simp only [Bool.not_false,Bool.true_and];by_cases h1:s.size<=12
    ·rw [decide_eq_true h1,decide_eq_true (by omega)]
    ·rw [decide_eq_false h1,decide_eq_false (by omega)]
  ·rw [k1,k3];simp [Xn]
 ·intro k hk;rw [hlen] at hk;have hk2:k < (bl s).length:=by rw [JZ];exact hk
  unfold Qpi;rw [XK hk2,cond_true,Qum (show k < (bi s).length by rw [Qir];exact hk),Qp,XD k (by omega)];simp only [List.getElem_zipIdx,Nat.zero_add];rfl
 ·rw [hlen,show (s.size:Int)=((bl s).length:Int) by rw [JZ]];unfold Qpi;rw [XM];rfl
theorem Qas (n lo hi:Int):Zx n lo hi=some (decide (lo<=n)&&decide (n<=hi)):=rfl
theorem QFf (a b:Int):Zt [a,b]=if a≠0 then a else b:=by
 unfold Zt Zt Zt;by_cases h:a=0<;>by_cases h2:b=0<;>simp [h,h2]
theorem Qdt (a b c:Int):Zt [a,b,c]=if a≠0 then a else if b≠0 then b else c:=by
 unfold Zt Zt Zt Zt;by_cases h:a=0<;>by_cases h2:b=0<;>by_cases h3:c=0<;>simp [h,h2,h3]
theorem ZA {α:Type} (l:List α) (f:α->Int) (k:Nat) (hk:k < l.length):(l[k]?.map f).getD 0=f l[k]:=by rw [List.getElem?_eq_getElem hk];rfl
theorem Qrt {α β:Type} (l:List α) (f:α->β) (k:Nat) (hk:k < l.length):(l.take k).map f++[f l[k]]=(l.take (k+1)).map f:=by
 rw [List.take_add_one,List.getElem?_eq_getElem hk,List.map_append];rfl
theorem Qna {α β:Type} {a:List α} {b:List β} (hl:a.length=b.length):(a.zip b).length=a.length:=by simp [hl]
theorem Qcn {α:Type} {xs:List α} {k:Nat} (h:k<=xs.length):cut xs 0 (k:Int)=some (xs.take k):=by
 unfold cut;rw [if_pos (by omega),Int.toNat_natCast];rfl
theorem Qsz {α:Type} [DecidableEq α] (l:List α) (v:α):(l.any fun x=>decide (v=x))=decide (v∈l):=by
 rw [Bool.eq_iff_iff];simp
theorem Qta {α:Type} [DecidableEq α] (l:List α) (v:α):(l.any fun x=>decide (x=v))=decide (v∈l):=by
 rw [Bool.eq_iff_iff];simp
def Qag {α:Type} (p:α->Bool) (l:List α):Int:=match Ye p (fun k _=>(k:Int)) 0 l with | .inl i=>i | .inr _=>(-1:Int)
theorem Qoq {α:Type} (p:α->Bool) (l:List α):decide (0<=Qag p l)=l.any p:=Qho p l 0
theorem Qur (l:List Int) (v:Int) (hl:l.length < 1000000):Qhn l v=some (Qag (fun x=>decide (v=x)) l):=by
 unfold Qhn Qag;rw [Y0 l (fun x=>decide (v=x)) (fun k _=>(k:Int)),Qp,Qeq]
 ·intro k hk;unfold Qrl;rw [XK hk,Xr hk,XD k (by omega)];rfl
 ·unfold Qrl;rw [XM];rfl
theorem Qdo (l:List Int) (v:Int) (hl:l.length < 1000000):Qal l v=some (decide (v∈l)):=by
 unfold Qal;rw [Qur l v hl,Qp,Qoq,Qsz]
end Go.Gw

end
section
set_option maxRecDepth 4096
namespace Go.Gw
open Go
attribute [local irreducible] loop
def Zm (s:ByteArray) (others:List ByteArray):Int:=bif J3 s then (bif Yw others s then 5 else 0) else 4
def Y5 (l:List ByteArray) (k:Nat):Int:=(l[k]?.map fun s=>Zm s (l.take k)).getD 0
def Yi (p:Nf) (n:Int):Bool:=decide (0<=n)&&decide (n<=(p.Na.length:Int) - 1)
def swX (p:Nf) (k:Nat) (s:Ns):Int:=bif Yi p s.Nh then (bif (p.Nb.take k).any (fun o=>decide (o.Nh=s.Nh)) then 26 else 0) else 6
def swE (p:Nf) (k:Nat) (s:Ns):Int:=if Zm s.Name ((p.Nb.take k).map (·.Name))=0 then swX p k s else Zm s.Name ((p.Nb.take k).map (·.Name))
def Zo (p:Nf) (k:Nat):Int:=(p.Nb[k]?.map (swE p k)).getD 0
def rsE (p:Nf) (r:Nn) (k:Nat) (s:Int):Int:=bif Yi p s then (bif decide (s∈r.Na.take k) then 26 else 0) else 6
def Jb (p:Nf) (r:Nn) (k:Nat):Int:=(r.Na[k]?.map (rsE p r k)).getD 0
def JR (r:Nn) (q:Int×Ns):Bool:=bif decide (q.2.Nh∈r.Na) then !(decide (q.1=0)||decide (q.1=1)) else !decide (q.1=-1)
def rtX (p:Nf) (r:Nn):Int :=
 if r.Na.length < 2 then 10 else if p.Na.length < r.Na.length then 8 else
 match Xx (Jb p r) r.Na.length with
 | some i=>Jb p r i
 | none=>if r.Np.length=p.Nb.length then (bif (r.Np.zip p.Nb).any (JR r) then 2 else 0) else 10
def rtE (p:Nf) (k:Nat) (r:Nn):Int:=if Zm r.Name ((p.Nj.take k).map (·.Name))=0 then rtX p r else Zm r.Name ((p.Nj.take k).map (·.Name))
def Zn (p:Nf) (k:Nat):Int:=(p.Nj[k]?.map (rtE p k)).getD 0
def Z0 (p:Nf):Nq×Int :=
 if p.Na.length=0\/p.Nc.length=0 then (Nq.mk 0 0,10) else if 8 < p.Na.length\/3 < p.Nc.length\/4 < p.Nb.length\/10 < p.Nj.length then (Nq.mk 0 0,8) else
 match Xx (Y5 p.Na) p.Na.length with
 | some i=>(Nq.mk 1 i,Y5 p.Na i)
 | none=>match Xx (Y5 p.Nc) p.Nc.length with
  | some i=>(Nq.mk 2 i,Y5 p.Nc i)
  | none=>match Xx (Zo p) p.Nb.length with
   | some i=>(Nq.mk 3 i,Zo p i)
   | none=>match Xx (Zn p) p.Nj.length with
    | some i=>(Nq.mk 4 i,Zn p i)
    | none=>(Nq.mk 0 0,0)
structure PlantS (p:Nf):Prop where
 se:p.Na.length < 1000
 tr:p.Nc.length < 1000
 sw:p.Nb.length < 1000
 ro:p.Nj.length < 1000
 sn:∀ s∈p.Na,s.size<=1000
 tn:∀ s∈p.Nc,s.size<=1000
 wn:∀ s∈p.Nb,s.Name.size<=1000
 rn:∀ r∈p.Nj,r.Name.size<=1000/\r.Na.length < 1000/\r.Np.length < 1000
theorem Qoo {α:Type} (l:List α) (f:α->ByteArray) (k:Nat) (hk:k < l.length) (h:Yw ((l.take k).map f) (f l[k])=false):ZK ((l.take k).map f) (f l[k])=(l.take (k+1)).map f:=by
 unfold ZK;rw [h,if_neg (by simp),Qrt l f k hk]
theorem Qpu (s:ByteArray) (others:List ByteArray):Zt [bif J3 s then 0 else 4,bif !(Yw others s) then 0 else 5]=Zm s others:=by
 unfold Zm;cases J3 s<;>cases Yw others s<;>rfl
theorem Qpv {s:ByteArray} {others:List ByteArray} (h:Zm s others=0):Yw others s=false:=by
 unfold Zm at h;cases h1:Yw others s with
 | false=>rfl
 | true=>rw [h1] at h;cases h2:J3 s<;>rw [h2] at h<;>cases h
theorem QCd {n m:Int} (h:n≠m):decide (n=m)=false:=decide_eq_false h
theorem Qvz (l:List ByteArray) (mark:Int) (hl:l.length < 1000) (hn:∀ s∈l,s.size<=1000):Qgi mark l=some (match Xx (Y5 l) l.length with | some i=>(Nq.mk mark i,Y5 l i) | none=>(Nq.mk 0 0,0)):=by
 unfold Qgi;have key:loop (Qgh l mark) (0,[])=some (match Xx (Y5 l) l.length with | some i=>.inl (Nq.mk mark i,Y5 l i) | none=>.inr ()):=by
  refine JQ (step:=Qgh l mark) (fun k=>((k:Int),(l.take k).map id)) l.length (Y5 l) (fun i e=>(Nq.mk mark i,e)) () (fun k hk _=>?_) (fun _=>?_)
  ·have hs:Y5 l k=Zm l[k] (l.take k):=ZA _ _ _ hk;have hi:=fun h=>Qoo l id k hk h
   simp only [List.map_id,id_eq] at hi ⊢;rw [hs];unfold Qgh;simp only [XK hk,cond_true,Xr hk,Qp];rw [show Qpk l[k]=some l[k] from rfl,Qp,Qor _ (hn _ (List.getElem_mem hk)),Qp];simp only [Yq,Qp];rw [Zs _ (by simp),Qp,Qpu];by_cases h:Zm l[k] (l.take k)=0
   ·rw [if_pos h,h,hi (Qpv h),XD k (by omega)];rfl
   ·rw [if_neg h,QCd h];rfl
  ·unfold Qgh;simp only [XM];rfl
 rw [key,Qp];cases Xx (Y5 l) l.length<;>rfl
theorem QBs (l:List Ns) (s:Ns) (hl:l.length < 1000):Qmc l s=some (l.any fun o=>decide (o.Nh=s.Nh)):=by
 unfold Qmc Qrf;rw [Y0 l (fun o=>decide (o.Nh=s.Nh)) (fun k _=>(k:Int)),Qp,Qeq,Qp,Qho]
 ·intro k hk;unfold Qre;rw [XK hk,Xr hk,XD k (by omega)];rfl
 ·unfold Qre;rw [XM];rfl
theorem Qyg (p:Nf) (hp:p.Na.length < 1000) (n:Int):Z7 n 0 (w64 ((p.Na.length:Int) - 1))=some (Yi p n):=by
 rw [Qsh,Zc (by omega)];rfl
theorem QQh {p:Nf} (h:PlantS p) (k:Nat) (hk:k < p.Nb.length):Qkn p k=some (swX p k p.Nb[k]):=by
 have h1:=h.sw;unfold Qkn swX;rw [Xr hk,Qp,Qcn (by omega),Qp,QBs _ _ (by simp;omega),Qp,Qyg p h.se,Qp,Yq,Qp,Yq,Qp,Zs _ (by simp),Qp];cases Yi p p.Nb[k].Nh<;>cases (p.Nb.take k).any (fun o=>decide (o.Nh=p.Nb[k].Nh))<;>rfl
theorem QQi {p:Nf} (h:PlantS p):Qkh 3 p.Nb p=some (match Xx (Zo p) p.Nb.length with | some i=>(Nq.mk 3 i,Zo p i) | none=>(Nq.mk 0 0,0)):=by
 have hl:=h.sw;unfold Qkh;have key:loop (Qgg p p.Nb 3) (0,[])=some (match Xx (Zo p) p.Nb.length with | some i=>.inl (Nq.mk 3 i,Zo p i) | none=>.inr ()):=by
  refine JQ (step:=Qgg p p.Nb 3) (fun k=>((k:Int),(p.Nb.take k).map (·.Name))) p.Nb.length (Zo p) (fun i e=>(Nq.mk 3 i,e)) () (fun k hk _=>?_) (fun _=>?_)
  ·have hs:Zo p k=swE p k p.Nb[k]:=ZA _ _ _ hk;have hi:=fun h=>Qoo p.Nb (·.Name) k hk h
   rw [hs];unfold Qgg swE;simp only [XK hk,cond_true,Xr hk,Qp];rw [show Qpa p.Nb[k]=some p.Nb[k].Name from rfl,Qp,Qor _ (h.wn _ (List.getElem_mem hk)),Qp];simp only [Yq,Qp];rw [Zs _ (by simp),Qp,Qpu,show Qjv (k:Int) p=some (swX p k p.Nb[k]) by unfold Qjv;rw [QQh h k hk];rfl];by_cases h1:Zm p.Nb[k].Name ((p.Nb.take k).map (·.Name))=0
   ·simp only [h1,hi (Qpv h1),if_true,decide_true,Bool.true_and,cond_true,Qp,XD k (show k < 4611686018427387904 by omega)];by_cases h2:swX p k p.Nb[k]=0
    ·simp [h2]
    ·simp [h2]
   ·simp only [h1,if_false,decide_false,Bool.false_and,cond_false,Qp,Bool.not_false,cond_true]
  ·unfold Qgg;simp only [XM];rfl
 rw [key,Qp];cases Xx (Zo p) p.Nb.length<;>rfl
theorem QNp {p:Nf} (h:PlantS p) (r:Nn) (hr:r.Na.length < 1000):loop (Qkk r p) 0=some (match Xx (Jb p r) r.Na.length with | some i=>.inl (Jb p r i) | none=>.inr ()) :=
 JQ (fun k=>(k:Int)) r.Na.length (Jb p r) (fun _ e=>e) () (fun k hk _=>by
  have hs:Jb p r k=rsE p r k r.Na[k]:=ZA _ _ _ hk;rw [hs];unfold Qkk rsE;rw [XK hk,cond_true,Xr hk,Qp,Qcn (by omega),Qp,Qyg p h.se,Qp,Yq,Qp,Qdo _ _ (by simp;omega),Qp,Yq,Qp,Zs _ (by simp),Qp,XD k (by omega)];cases Yi p r.Na[k]<;>cases decide (r.Na[k]∈r.Na.take k)<;>rfl) (fun _=>by
  unfold Qkk;rw [XM];rfl)
theorem QNo {p:Nf} (r:Nn) (hr:r.Na.length < 1000) (hn:r.Np.length < 1000) (he:r.Np.length=p.Nb.length):loop (Qkl r p) 0=some (Ye (JR r) (fun _ _=>(2:Int)) 0 (r.Np.zip p.Nb)) :=
 Y0 (r.Np.zip p.Nb) _ _ (fun k hk=>by
  rw [Qna he] at hk;unfold Qkl;rw [XK hk,cond_true,Xr hk,Qp,Xr (show k < p.Nb.length by omega),Qp,Qdo _ _ (by omega),Qp,XD k (by omega)];simp only [List.getElem_zip,JR];rw [show Qdz r.Np[k]=some (decide (r.Np[k]=0)||decide (r.Np[k]=1)) from rfl];cases decide (p.Nb[k].Nh∈r.Na)<;>rfl) (by
  rw [Qna he];unfold Qkl;rw [XM];rfl)
theorem QNs {p:Nf} (h:PlantS p) (k:Nat) (hk:k < p.Nj.length):Qkm p k=some (rtX p p.Nj[k]):=by
 obtain ⟨_,hr,hn⟩:=h.rn _ (List.getElem_mem hk);have h1:=h.se;have h2:=h.sw;unfold Qkm rtX;rw [Xr hk,Qp,Yq,Qp,Yq,Qp,Zs _ (by simp),Qp];generalize p.Nj[k]=r at hr hn ⊢;by_cases h3:r.Na.length < 2
 ·rw [if_pos h3,decide_eq_false (show ¬ (2<=(r.Na.length:Int)) by omega)];rfl
 rw [if_neg h3,decide_eq_true (show 2<=(r.Na.length:Int) by omega)];by_cases h4:p.Na.length < r.Na.length
 ·rw [if_pos h4,decide_eq_false (show ¬ ((r.Na.length:Int)<=p.Na.length) by omega)];rfl
 rw [if_neg h4,decide_eq_true (show (r.Na.length:Int)<=p.Na.length by omega),QNp h r hr];simp only [Zt,cond_true,if_true,decide_true,Bool.not_true,cond_false,Qp];cases Xx (Jb p r) r.Na.length with
 | some i=>rfl
 | none =>
  simp only [Xn];by_cases h5:r.Np.length=p.Nb.length
  ·rw [if_pos h5,decide_eq_true (by omega),Bool.not_true,cond_false,QNo r hr hn h5,Qp];rcases ZC (p:=JR r) (res:=fun _ _=>(2:Int)) (r.Np.zip p.Nb) 0 with ⟨k1,k2⟩ | ⟨j,x,k1,k2,k3⟩
   ·rw [k1,k2];rfl
   ·rw [k1,k3];rfl
  ·rw [if_neg h5,decide_eq_false (by omega)];rfl
theorem QOe {p:Nf} (h:PlantS p):Qkg 4 p.Nj p=some (match Xx (Zn p) p.Nj.length with | some i=>(Nq.mk 4 i,Zn p i) | none=>(Nq.mk 0 0,0)):=by
 have hl:=h.ro;unfold Qkg;have key:loop (Qgf p p.Nj 4) (0,[])=some (match Xx (Zn p) p.Nj.length with | some i=>.inl (Nq.mk 4 i,Zn p i) | none=>.inr ()):=by
  refine JQ (step:=Qgf p p.Nj 4) (fun k=>((k:Int),(p.Nj.take k).map (·.Name))) p.Nj.length (Zn p) (fun i e=>(Nq.mk 4 i,e)) () (fun k hk _=>?_) (fun _=>?_)
  ·have hs:Zn p k=rtE p k p.Nj[k]:=ZA _ _ _ hk;have hi:=fun h=>Qoo p.Nj (·.Name) k hk h
   rw [hs];unfold Qgf rtE;simp only [XK hk,cond_true,Xr hk,Qp];rw [show Qpc p.Nj[k]=some p.Nj[k].Name from rfl,Qp,Qor _ (h.rn _ (List.getElem_mem hk)).1,Qp];simp only [Yq,Qp];rw [Zs _ (by simp),Qp,Qpu,show Qjw (k:Int) p=some (rtX p p.Nj[k]) by unfold Qjw;rw [QNs h k hk];rfl];by_cases h1:Zm p.Nj[k].Name ((p.Nj.take k).map (·.Name))=0
   ·simp only [h1,hi (Qpv h1),if_true,decide_true,Bool.true_and,cond_true,Qp,XD k (show k < 4611686018427387904 by omega)];by_cases h2:rtX p p.Nj[k]=0
    ·simp [h2]
    ·simp [h2]
   ·simp only [h1,if_false,decide_false,Bool.false_and,cond_false,Qp,Bool.not_false,cond_true]
  ·unfold Qgf;simp only [XM];rfl
 rw [key,Qp];cases Xx (Zn p) p.Nj.length<;>rfl
theorem QBt {p:Nf} (h:PlantS p):Qjx p=some (Z0 p):=by
  unfold Qjx Z0;rw [Yq,Qp,Yq,Qp,Zs _ (by simp),Qp];by_cases h1:p.Na.length=0\/p.Nc.length=0
  · rw [if_pos h1, show (decide (0 < (p.Na.length : Int)) && decide (0 < (p.Nc.length : Int))) = false by
      rcases h1 with h1 | h1
      · rw [decide_eq_false (show ¬ (0 < (p.Na.length:Int)) by omega)];rfl
      · rw [decide_eq_false (show ¬ (0 < (p.Nc.length:Int)) by omega),Bool.and_false]]
    rfl
  rw [if_neg h1,decide_eq_true (show 0 < (p.Na.length:Int) by omega),decide_eq_true (show 0 < (p.Nc.length:Int) by omega)];by_cases h2:8 < p.Na.length\/3 < p.Nc.length\/4 < p.Nb.length\/10 < p.Nj.length
  · rw [if_pos h2, show (((decide (8 < (p.Na.length : Int)) || decide (3 < (p.Nc.length : Int))) || decide (4 < (p.Nb.length : Int))) || decide (10 < (p.Nj.length : Int))) = true by
      simp only [Bool.or_eq_true,decide_eq_true_eq];omega]
    rfl
  rw [if_neg h2, show (((decide (8 < (p.Na.length : Int)) || decide (3 < (p.Nc.length : Int))) || decide (4 < (p.Nb.length : Int))) || decide (10 < (p.Nj.length : Int))) = false by
      rw [decide_eq_false (by omega),decide_eq_false (by omega),decide_eq_false (by omega),decide_eq_false (by omega)];rfl]
  unfold Qoy Qoz Qpb Qpd;rw [Qvz _ _ h.se h.sn,Qvz _ _ h.tr h.tn,QQi h,QOe h];have hz:∀ {f:Nat->Int} {n i:Nat},Xx f n=some i->f i≠0:=fun {f n i} hf=>by
    rcases Qjd f n with ⟨k1,_⟩ | ⟨j,k1,_,k3,_⟩
    · rw [k1] at hf;cases hf
    · rw [k1] at hf;cases hf;exact k3
  simp only [Bool.true_and,Bool.not_false,cond_true,Zt,if_true,decide_true,Bool.not_true,cond_false,Qp];cases h3:Xx (Y5 p.Na) p.Na.length with
  | some i=>simp [hz h3]
  | none =>
    simp only [decide_true,Bool.not_true,cond_false];cases h4:Xx (Y5 p.Nc) p.Nc.length with
    | some i=>simp [hz h4]
    | none =>
      simp only [decide_true,Bool.not_true,cond_false];cases h5:Xx (Zo p) p.Nb.length with
      | some i=>simp [hz h5]
      | none =>
        simp only [decide_true,Bool.not_true,cond_false];cases h6:Xx (Zn p) p.Nj.length with
        | some i=>simp [hz h6]
        | none=>simp
theorem QMl {p:Nf} (h:PlantS p):Qct p=some (Z0 p).2:=by
 unfold Qct;rw [QBt h];rfl
end Go.Gw

end
section
set_option maxRecDepth 4096
namespace Go.Gw
open Go
attribute [local irreducible] loop
theorem Qtu {α:Type} {xs:List α} (h:1<=xs.length):cut xs 1 (xs.length:Int)=some (xs.drop 1):=by
 unfold cut;rw [if_pos (by omega),Int.toNat_natCast,List.take_length];rfl
structure StateS (x:Ng):Prop where
 sw:x.Nb.length < 1000
 tr:x.Nc.length < 1000
 ch:∀ t∈x.Nc,t.Nd.length < 1000
def XO (x:Ng) (s:Int):Int:=Qag (fun t:Nl=>decide (s∈t.Nd)) x.Nc
def Yk (x:Ng) (s:Int):Bool:=x.Nc.any fun t=>decide (s∈t.Nd)
theorem QFn (x:Ng) (s:Int):decide (0<=XO x s)=Yk x s:=Qoq _ _
theorem QFo (p:Nf) {x:Ng} (h:StateS x) (s:Int):Qkd (some ⟨p,x⟩) s=some (XO x s):=by
 have h1:=h.tr;unfold Qkd Qrg XO Qag;rw [Qp];show (Option.bind (Option.bind (loop (Qmf s x.Nc) 0) _) _)=_;rw [Y0 x.Nc (fun t=>decide (s∈t.Nd)) (fun k _=>(k:Int)),Qp,Qeq,Qp]
 ·intro k hk;unfold Qmf Qpm;rw [XK hk,cond_true,Xr hk,Qp,Qdo _ _ (by have:=h.ch _ (List.getElem_mem hk);omega),Qp,Qp,XD k (by omega)]
 ·unfold Qmf;rw [XM];rfl
theorem Qmi (p:Nf) {x:Ng} (h:StateS x) (l:List Int) (hl:l.length < 1000):Qcs (some ⟨p,x⟩) l=some (l.any (Yk x)):=by
 unfold Qcs Qrd Qrk;rw [Y0 l (Yk x) (fun k _=>(k:Int)),Qp,Qeq,Qp,Qho]
 ·rfl
 ·intro k hk;unfold Qrj Qpp;rw [XK hk,cond_true,Xr hk,Qp,QFo p h,Qp,Qp,QFn,XD k (by omega)]
 ·unfold Qrj;rw [XM];rfl
def Qcr (secs:List Int) (q:Ns×(Int×Int)):Bool:=decide (q.1.Nh∈secs)&&!decide (q.2.1=q.2.2)
def Yz (p:Nf) (sw:List Int) (r:Nn) (secs:List Int):Bool:=!((p.Nb.zip (r.Np.zip sw)).any (Qcr secs))
theorem QPp (α:Type) (p:α->Bool) (l:List α):(Xn (Ye p (fun _ _=>false) 0 l) fun (_:Unit)=>some true)=some (!(l.any p)):=by
 rcases ZC (p:=p) (res:=fun _ _=>false) l 0 with ⟨k1,k2⟩ | ⟨j,x,k1,k2,k3⟩
 ·rw [k1,k2];rfl
 ·rw [k1,k3];rfl
theorem Quw {p:Nf} {x:Ng} {r:Nn} {secs:List Int} (h1:r.Np.length=p.Nb.length) (h2:x.Nb.length=p.Nb.length) (h3:p.Nb.length < 1000) (hs:secs.length < 1000):Qgb (some ⟨p,x⟩) r secs=some (Yz p x.Nb r secs):=by
 unfold Qgb Yz;have hlen:(p.Nb.zip (r.Np.zip x.Nb)).length=p.Nb.length:=by simp [h1,h2]
 rw [Qp,Y0 (p.Nb.zip (r.Np.zip x.Nb)) (Qcr secs) (fun _ _=>false),Qp,QPp]
 ·intro k hk;rw [hlen] at hk;unfold Qpo;rw [XK hk,cond_true,Xr hk,Qp,Qdo _ _ (by omega),Qp,XD k (by omega)];simp only [Qp];rw [Xr (show k < r.Np.length by omega),Xr (show k < x.Nb.length by omega)];simp only [List.getElem_zip,Qcr,Qp];cases decide (p.Nb[k].Nh∈secs)<;>rfl
 ·rw [hlen];unfold Qpo;rw [XM];rfl
theorem QBv (l:List Nl) (h:l.length < 1000000):Qma l=some l:=by
 unfold Qma;rw [JI (by simp;omega)];rfl
theorem Qnz (l:List Int) (h:l.length < 1000000):Qbu l=some l:=by
 unfold Qbu;rw [JI (by simp;omega)];rfl
theorem Qdv {α:Type} {xs:List α} {i:Int} (h0:0<=i) (h:i.toNat < xs.length):idx xs i=some xs[i.toNat]:=by
 unfold idx;rw [if_pos h0,List.getElem?_eq_getElem h]
theorem QJb (p:Nf) (x:Ng) {a:Int} (h0:0<=a) (hk:a.toNat < x.Nc.length) (hl:x.Nc.length < 1000) (c:List Int) (u:Int):Qav (some ⟨p,x⟩) a c u=some (some ⟨p,⟨x.Nb,x.Nc.set a.toNat ⟨c,u⟩,x.Ni⟩⟩):=by
 unfold Qav;rw [Qp,QBv _ (by show x.Nc.length < _;omega),Qp];show Option.bind (idx x.Nc a) _=_;rw [Qdv h0 hk,Qp]
theorem QFh (n:Nat) (h:n < 1000000):Qme (n:Int)=some []:=by
 unfold Qme;rw [decide_eq_false (show ¬ (n:Int) < 0 by omega)];simp only [cond_false,Qp,Int.natCast_zero,Int.sub_zero];rw [show w64 (0:Int)=0 from rfl,Int.sub_zero,Zc (by omega)];by_cases h0:0 < (n:Int)
 ·rw [decide_eq_true h0,cond_true];unfold mkZ
  first
  | (rw [if_pos (by omega),Qp];unfold cut;rw [if_pos (by simp)];rfl)
  | skip
 ·rw [decide_eq_false h0];rfl
theorem QBz (a b:List Int) (ha:a.length < 1000) (hb:b.length < 1000):Qmb [a,b]=some (a++b):=by
 have f0:Qeo [a,b] (0,0)=some (.inl ((a.length:Int),1)):=by
  unfold Qeo;simp only [show decide ((0:Int) < (([a,b]:List (List Int)).length:Int))=true from rfl,cond_true,show idx [a,b] (0:Int)=some a from rfl,Qp,Int.zero_add];rw [Zc (by omega),decide_eq_false (by omega)];rfl
 have f1:Qeo [a,b] ((a.length:Int),1)=some (.inl (((a.length+b.length:Nat):Int),2)):=by
  unfold Qeo;simp only [show decide ((1:Int) < (([a,b]:List (List Int)).length:Int))=true from rfl,cond_true,show idx [a,b] (1:Int)=some b from rfl,Qp];rw [Zc (by omega),decide_eq_false (by omega),show ((a.length:Int)+(b.length:Int))=((a.length+b.length:Nat):Int) by omega];rfl
 have f2:Qeo [a,b] (((a.length+b.length:Nat):Int),2)=some (.inr ((a.length+b.length:Nat):Int)):=rfl;have g0:Qep [a,b] ([],0)=some (.inl (a,1)):=by
  unfold Qep;simp only [show decide ((0:Int) < (([a,b]:List (List Int)).length:Int))=true from rfl,cond_true,show idx [a,b] (0:Int)=some a from rfl,Qp];rw [JI (by simp;omega)];rfl
 have g1:Qep [a,b] (a,1)=some (.inl (a++b,2)):=by
  unfold Qep;simp only [show decide ((1:Int) < (([a,b]:List (List Int)).length:Int))=true from rfl,cond_true,show idx [a,b] (1:Int)=some b from rfl,Qp];rw [JI (by omega)];rfl
 have g2:Qep [a,b] (a++b,2)=some (.inr (a++b)):=rfl;unfold Qmb;rw [Qbs f0,Qbs f1,Qcu f2,Qp,QFh _ (by omega),Qp,Qbs g0,Qbs g1,Qcu g2,Qp]
/-! ### Events -/
def JV (p:Nf) (n:Int):Bool:=decide (0<=n)&&decide (n<=(p.Nc.length:Int) - 1)
def Qdd (p:Nf) (n:Int):Bool:=decide (0<=n)&&decide (n<=(p.Nb.length:Int) - 1)
def Qda (p:Nf) (n:Int):Bool:=decide (0<=n)&&decide (n<=(p.Nj.length:Int) - 1)
def YH (n:Int):Bool:=decide (n=0)||decide (n=1)
def Zz (p:Nf) (e:Nr):Int :=
 if ¬ (0<=e.Kind/\e.Kind<=6) then 15 else if e.Kind=2 then (bif Qdd p e.A then (bif YH e.B then 0 else 2) else 6) else
 bif JV p e.A then (if e.Kind=0 then (bif Yi p e.B then 0 else 6) else if e.Kind=1 then (bif Qda p e.B then 0 else 6) else if e.B=0 then 0 else 3) else 6
theorem Qjs {n:Int} {k:Nat} (hk:k < 1000):Z7 n 0 (w64 ((k:Int) - 1))=some (decide (0<=n)&&decide (n<=(k:Int) - 1)):=by
 rw [Qsh,Zc (by omega)]
theorem Qyh {p:Nf} (h:PlantS p) (n:Int):Qgk p n=some (bif Yi p n then 0 else 6):=by
 unfold Qgk;rw [Qjs h.se,Qp,Yq];rfl
theorem QRk {p:Nf} (h:PlantS p) (n:Int):Qko p n=some (bif JV p n then 0 else 6):=by
 unfold Qko;rw [Qjs h.tr,Qp,Yq];rfl
theorem QDi {p:Nf} (h:PlantS p) (e:Nr):Qfz p e=some (Zz p e):=by
  unfold Qfz Zz;rw [QFv,Qp];by_cases hk:0<=e.Kind/\e.Kind<=6
  · rw [if_neg (by omega),show (decide (0<=e.Kind)&&decide (e.Kind<=6))=true by simp [hk.1,hk.2]];simp only [Bool.not_true,cond_false];by_cases h2:e.Kind=2
    · rw [if_pos h2,decide_eq_true h2,cond_true,Qjs h.sw,Qp,Yq,Qp,show Qdz e.B=some (YH e.B) from rfl,Qp,Yq,Qp,Zs _ (by simp),Qp];show some (Zt [bif Qdd p e.A then 0 else 6,_])=_;cases Qdd p e.A<;>cases YH e.B<;>rfl
    · rw [if_neg h2,decide_eq_false h2,cond_false,Yq,Qp,Qyh h,Qp,Qjs h.ro,Qp,Yq,Qp,QRk h];show (Option.bind (bif decide (e.Kind=0) then some (bif Yi p e.B then 0 else 6) else bif decide (e.Kind=1) then some (bif Qda p e.B then 0 else 6) else some _) _)=_;by_cases h0:e.Kind=0
      · rw [if_pos h0,decide_eq_true h0,cond_true,Qp,Qp,Zs _ (by simp),Qp];cases JV p e.A<;>cases Yi p e.B<;>rfl
      · rw [if_neg h0,decide_eq_false h0,cond_false];by_cases h1:e.Kind=1
        · rw [if_pos h1,decide_eq_true h1,cond_true,Qp,Qp,Zs _ (by simp),Qp];cases JV p e.A<;>cases Qda p e.B<;>rfl
        · rw [if_neg h1,decide_eq_false h1,cond_false,Qp,Qp,Zs _ (by simp),Qp];by_cases h3:e.B=0
          · rw [if_pos h3,decide_eq_true h3];cases JV p e.A<;>rfl
          · rw [if_neg h3,decide_eq_false h3];cases JV p e.A<;>rfl
  · rw [if_pos hk, show (decide (0 <= e.Kind) && decide (e.Kind <= 6)) = false by
      rw [Bool.and_eq_false_iff,decide_eq_false_iff_not,decide_eq_false_iff_not];omega]
    rfl
def YI (x:Ng) (e:Nr):Nl:=x.Nc[e.A.toNat]?.getD ⟨[],0⟩
def Qeu (p:Nf) (e:Nr):Ns:=p.Nb[e.A.toNat]?.getD ⟨ByteArray.mk #[],0⟩
def Yx (p:Nf) (e:Nr):Nn:=p.Nj[e.B.toNat]?.getD ⟨ByteArray.mk #[],[],[]⟩
def ZP (p:Nf) (x:Ng) (e:Nr):Int :=
 if e.Kind=2 then (bif Yk x (Qeu p e).Nh then 17 else 0) else
 if e.Kind=0 then (if (YI x e).Nd.length=0 then (bif Yk x e.B then 17 else 0) else 22) else
 if (YI x e).Nd.length=0 then 22 else
 if e.Kind=1 then (if (Yx p e).Na.head?=(YI x e).Nd.getLast? then (bif ((Yx p e).Na.drop 1).any (Yk x) then 17 else bif Yz p x.Nb (Yx p e) (Yx p e).Na then 0 else 13) else 23) else
 if e.Kind=4 then (if 1 < (YI x e).Nk then 0 else 12) else
 if e.Kind=3\/e.Kind=5 then (if (YI x e).Nk < (YI x e).Nd.length then 0 else 12) else
 if (YI x e).Nd.length=1 then 0 else 17
def trX (p:Nf) (t:Nl) (e:Nr):Nl :=
 if e.Kind=0 then ⟨[e.B],1⟩ else if e.Kind=1 then ⟨t.Nd++(Yx p e).Na.drop 1,t.Nk⟩ else if e.Kind=3 then ⟨t.Nd,t.Nk+1⟩ else
 if e.Kind=4 then ⟨t.Nd.drop 1,t.Nk - 1⟩ else if e.Kind=5 then ⟨t.Nd.take (t.Nd.length - 1),t.Nk⟩ else ⟨[],0⟩
def YZ (p:Nf) (x:Ng) (e:Nr):Ng :=
 if e.Kind=2 then ⟨x.Nb.set e.A.toNat e.B,x.Nc,x.Ni⟩ else ⟨x.Nb,x.Nc.set e.A.toNat (trX p (YI x e) e),x.Ni⟩
end Go.Gw

end
section
set_option maxRecDepth 4096
namespace Go.Gw
open Go
attribute [local irreducible] loop
theorem Qft {f:Nat->Int} {n:Nat} (h:Xx f n=none):∀ j,j < n->f j=0:=by
 rcases Qjd f n with ⟨_,h2⟩ | ⟨i,h1,_⟩
 ·exact h2
 ·rw [h1] at h;cases h
theorem JN {f:Nat->Int} {n i:Nat} (h:Xx f n=some i):i < n/\f i≠0/\∀ j,j < i->f j=0:=by
 rcases Qjd f n with ⟨h1,_⟩ | ⟨j,h1,h2,h3,h4⟩
 ·rw [h1] at h;cases h
 ·rw [h1] at h;cases h;exact ⟨h2,h3,h4⟩
theorem QEu {f:Nat->Int} {n:Nat} (h:∀ j,j < n->f j=0):Xx f n=none:=by
 cases hf:Xx f n with
 | none=>rfl
 | some i=>obtain ⟨h1,h2,_⟩:=JN hf;exact absurd (h i h1) h2
theorem Qwv {α:Type} {l:List α} (h:∀ k (hk:k < l.length),l[k]∉l.take k):l.Nodup:=by
 unfold List.Nodup;rw [List.pairwise_iff_getElem];intro i j hi hj hij e;refine h j hj ?_;rw [<-e];exact List.mem_take_iff_getElem.2 ⟨i,by omega,rfl⟩
theorem QLm {α:Type} {l:List α} (h:l.Nodup) {k:Nat} (hk:k < l.length):l[k]∉l.take k:=by
 intro hm;obtain ⟨i,hi,e⟩:=List.mem_take_iff_getElem.1 hm;unfold List.Nodup at h;rw [List.pairwise_iff_getElem] at h;exact h i k (by omega) hk (by omega) e
structure PlantOk (p:Nf):Prop where
 s1:1<=p.Na.length
 s8:p.Na.length<=8
 t1:1<=p.Nc.length
 t3:p.Nc.length<=3
 w4:p.Nb.length<=4
 r10:p.Nj.length<=10
 ws:∀ s∈p.Nb,Yi p s.Nh=true
 r2:∀ r∈p.Nj,2<=r.Na.length
 r8:∀ r∈p.Nj,r.Na.length<=p.Na.length
 rs:∀ r∈p.Nj,∀ s∈r.Na,Yi p s=true
 rd:∀ r∈p.Nj,r.Na.Nodup
 rn:∀ r∈p.Nj,r.Np.length=p.Nb.length
 rx:∀ r∈p.Nj,(r.Np.zip p.Nb).any (JR r)=false
theorem Qek {p:Nf} {r:Nn} (h:rtX p r=0):2<=r.Na.length/\r.Na.length<=p.Na.length/\(∀ s∈r.Na,Yi p s=true)/\r.Na.Nodup/\r.Np.length=p.Nb.length/\(r.Np.zip p.Nb).any (JR r)=false:=by
 unfold rtX at h;by_cases h1:r.Na.length < 2
 ·rw [if_pos h1] at h;cases h
 rw [if_neg h1] at h;by_cases h2:p.Na.length < r.Na.length
 ·rw [if_pos h2] at h;cases h
 rw [if_neg h2] at h;cases hf:Xx (Jb p r) r.Na.length with
 | some i=>rw [hf] at h;exact absurd h (JN hf).2.1
 | none =>
  rw [hf] at h;have hz:∀ k (hk:k < r.Na.length),rsE p r k r.Na[k]=0:=fun k hk=>by
   have:=Qft hf k hk;rwa [show Jb p r k=rsE p r k r.Na[k] from ZA _ _ _ hk] at this
  have hz2:∀ k (hk:k < r.Na.length),Yi p r.Na[k]=true/\r.Na[k]∉r.Na.take k:=fun k hk=>by
   have:=hz k hk;unfold rsE at this;cases hb:Yi p r.Na[k] with
   | false=>rw [hb] at this;cases this
   | true =>
    rw [hb,cond_true] at this;refine ⟨rfl,fun hm=>?_⟩;rw [decide_eq_true hm] at this;cases this
  have h3:r.Np.length=p.Nb.length/\(r.Np.zip p.Nb).any (JR r)=false:=by
   by_cases h5:r.Np.length=p.Nb.length
   ·simp only [h5,if_true] at h;refine ⟨h5,?_⟩;cases hb:(r.Np.zip p.Nb).any (JR r) with
    | false=>rfl
    | true=>rw [hb] at h;cases h
   ·simp only [h5,if_false] at h;cases h
  refine ⟨by omega,by omega,fun s hs=>?_,Qwv fun k hk=>(hz2 k hk).2,h3.1,h3.2⟩;obtain ⟨k,hk,rfl⟩:=List.getElem_of_mem hs;exact (hz2 k hk).1
theorem Qqm {p:Nf} (h:(Z0 p).2=0):PlantOk p:=by
 unfold Z0 at h;by_cases h1:p.Na.length=0\/p.Nc.length=0
 ·rw [if_pos h1] at h;cases h
 rw [if_neg h1] at h;by_cases h2:8 < p.Na.length\/3 < p.Nc.length\/4 < p.Nb.length\/10 < p.Nj.length
 ·rw [if_pos h2] at h;cases h
 rw [if_neg h2] at h;cases h3:Xx (Y5 p.Na) p.Na.length with
 | some i=>rw [h3] at h;exact absurd h (JN h3).2.1
 | none =>
  rw [h3] at h;cases h4:Xx (Y5 p.Nc) p.Nc.length with
  | some i=>rw [h4] at h;exact absurd h (JN h4).2.1
  | none =>
   rw [h4] at h;cases h5:Xx (Zo p) p.Nb.length with
   | some i=>rw [h5] at h;exact absurd h (JN h5).2.1
   | none =>
    rw [h5] at h;cases h6:Xx (Zn p) p.Nj.length with
    | some i=>rw [h6] at h;exact absurd h (JN h6).2.1
    | none =>
     have hr:∀ r∈p.Nj,rtX p r=0:=fun r hr=>by
      obtain ⟨k,hk,rfl⟩:=List.getElem_of_mem hr;have:=Qft h6 k hk;rw [show Zn p k=rtE p k p.Nj[k] from ZA _ _ _ hk] at this;unfold rtE at this;by_cases hn:Zm p.Nj[k].Name ((p.Nj.take k).map (·.Name))=0
      ·rwa [if_pos hn] at this
      ·rw [if_neg hn] at this;exact absurd this hn
     refine ⟨by omega,by omega,by omega,by omega,by omega,by omega,fun s hs=>?_,fun r h=>(Qek (hr r h)).1,fun r h=>(Qek (hr r h)).2.1,fun r h=>(Qek (hr r h)).2.2.1,fun r h=>(Qek (hr r h)).2.2.2.1,fun r h=>(Qek (hr r h)).2.2.2.2.1,fun r h=>(Qek (hr r h)).2.2.2.2.2⟩;obtain ⟨k,hk,rfl⟩:=List.getElem_of_mem hs;have:=Qft h5 k hk;rw [show Zo p k=swE p k p.Nb[k] from ZA _ _ _ hk] at this;unfold swE at this;by_cases hn:Zm p.Nb[k].Name ((p.Nb.take k).map (·.Name))=0
     ·rw [if_pos hn] at this;unfold swX at this;cases hb:Yi p p.Nb[k].Nh with
      | true=>rfl
      | false=>rw [hb] at this;cases this
     ·rw [if_neg hn] at this;exact absurd this hn
def ZB (r:Nn) (a b:Int):Bool:=(r.Na.zip (r.Na.drop 1)).any fun q=>decide (q.1=a)&&decide (q.2=b)
def Jv (p:Nf) (sw:List Int) (a b:Int):Bool:=p.Nj.any fun r=>ZB r a b&&Yz p sw r [a,b]
theorem pairB_iff {r:Nn} {a b:Int}:ZB r a b=true↔∃ k,∃ hk:k+1 < r.Na.length,r.Na[k]=a/\r.Na[k+1]=b:=by
 unfold ZB;rw [List.any_eq_true];constructor
 ·rintro ⟨q,hq,h⟩;obtain ⟨k,hk,rfl⟩:=List.getElem_of_mem hq;simp only [List.length_zip,List.length_drop] at hk;simp only [List.getElem_zip,List.getElem_drop,Bool.and_eq_true,decide_eq_true_eq] at h;refine ⟨k,by omega,h.1,?_⟩;rw [<-h.2];congr 1;omega
 ·rintro ⟨k,hk,h1,h2⟩;refine ⟨(r.Na[k],r.Na[k+1]),?_,by simp [h1,h2]⟩;rw [List.mem_iff_getElem];refine ⟨k,by simp only [List.length_zip,List.length_drop];omega,?_⟩;simp only [List.getElem_zip,List.getElem_drop,Prod.mk.injEq,true_and];congr 1;omega
structure StateOk (p:Nf) (x:Ng):Prop where
 sw:x.Nb.length=p.Nb.length
 tr:x.Nc.length=p.Nc.length
 pos:∀ n∈x.Nb,YH n=true
 cnt:Qad x.Ni=true
 un:∀ t∈x.Nc,(t.Nd=[]/\t.Nk=0)\/(1<=t.Nk/\t.Nk<=t.Nd.length)
 sc:∀ t∈x.Nc,∀ s∈t.Nd,Yi p s=true
 nd:∀ t∈x.Nc,t.Nd.Nodup
 dj:∀ i j (hi:i < x.Nc.length) (hj:j < x.Nc.length),i≠j->∀ s∈x.Nc[i].Nd,s∉x.Nc[j].Nd
 ld:∀ t∈x.Nc,∀ k (hk:k+1 < t.Nd.length),Jv p x.Nb t.Nd[k] t.Nd[k+1]=true
theorem Qwu:∀ (n:Nat) (l:List Int),l.Nodup->(∀ s∈l,0<=s/\s < (n:Int))->l.length<=n
  | 0,l,_,h=>by
    cases l with
    | nil=>simp
    | cons x xs=>have:=h x (by simp);omega
  | n+1,l,hn,h=>by
    have h1:=Qwu n (l.filter fun s=>decide (s≠(n:Int))) (hn.filter _) fun s hs=>by
      rw [List.mem_filter] at hs;have:=h s hs.1;have:=hs.2;simp at this;omega
    have h2:l.length<=(l.filter fun s=>decide (s≠(n:Int))).length+1:=by
      clear h h1
      induction l with
      | nil=>simp
      | cons x xs ih =>
        rw [List.nodup_cons] at hn;by_cases hx:x=(n:Int)
        · have : xs.filter (fun s => decide (s ≠ (n : Int))) = xs := by
            rw [List.filter_eq_self];intro a ha;simp only [ne_eq,decide_not,Bool.not_eq_true',decide_eq_false_iff_not];intro e;subst hx;subst e;exact hn.1 ha
          rw [List.filter_cons_of_neg (by simp [hx]),this];simp
        · rw [List.filter_cons_of_pos (by simp [hx])];have:=ih hn.2;simp only [List.length_cons];omega
    omega
theorem StateOk.len {p:Nf} {x:Ng} (h:StateOk p x) {t:Nl} (ht:t∈x.Nc):t.Nd.length<=p.Na.length :=
 Qwu _ _ (h.nd t ht) fun s hs=>by
  have:=h.sc t ht s hs;unfold Yi at this;simp at this;omega
theorem StateOk.s {p:Nf} (hp:PlantOk p) {x:Ng} (h:StateOk p x):StateS x :=
 ⟨by have:=h.sw;have:=hp.w4;omega,by have:=h.tr;have:=hp.t3;omega,fun t ht=>by have:=h.len ht;have:=hp.s8;omega⟩
end Go.Gw

end
section
set_option maxRecDepth 4096
namespace Go.Gw
open Go
attribute [local irreducible] loop
theorem liesB_iff {p:Nf} {sw:List Int} {r:Nn} {secs:List Int}:Yz p sw r secs=true↔∀ k (h1:k < p.Nb.length) (h2:k < r.Np.length) (h3:k < sw.length),p.Nb[k].Nh∈secs->r.Np[k]=sw[k]:=by
  unfold Yz;rw [Bool.not_eq_true',List.any_eq_false];constructor
  · intro h k h1 h2 h3 hm;have:=h (p.Nb[k],(r.Np[k],sw[k])) (by
      rw [List.mem_iff_getElem];exact ⟨k,by simp only [List.length_zip];omega,by simp only [List.getElem_zip]⟩)
    simp only [Qcr,hm,decide_true,Bool.true_and,Bool.not_eq_true',decide_eq_false_iff_not,Decidable.not_not] at this;exact this
  · intro h q hq;obtain ⟨k,hk,rfl⟩:=List.getElem_of_mem hq;simp only [List.length_zip] at hk;simp only [List.getElem_zip,Qcr,Bool.and_eq_true,decide_eq_true_eq,Bool.not_eq_true',decide_eq_false_iff_not,not_and,Decidable.not_not];exact fun hm=>h k (by omega) (by omega) (by omega) hm
theorem QGl {p:Nf} {sw:List Int} {r:Nn} {a b:List Int} (h:Yz p sw r a=true) (hs:∀ s∈b,s∈a):Yz p sw r b=true :=
 liesB_iff.2 fun k h1 h2 h3 hm=>liesB_iff.1 h k h1 h2 h3 (hs _ hm)
theorem QGm {p:Nf} {sw:List Int} {r:Nn} {a:List Int} {i:Nat} {v:Int} (hi:∀ h:i < p.Nb.length,p.Nb[i].Nh∉a) (h:Yz p sw r a=true):Yz p (sw.set i v) r a=true :=
 liesB_iff.2 fun k h1 h2 h3 hm=>by
  have hne:i≠k:=fun e=>by subst e;exact hi h1 hm
  rw [List.getElem_set_ne hne];exact liesB_iff.1 h k h1 h2 (by simpa using h3) hm
theorem leadsB_iff {p:Nf} {sw:List Int} {a b:Int}:Jv p sw a b=true↔∃ r∈p.Nj,ZB r a b=true/\Yz p sw r [a,b]=true:=by
 unfold Jv;rw [List.any_eq_true];simp only [Bool.and_eq_true]
theorem Qru {x:Ng} {s:Int} (h:Yk x s=false):∀ t∈x.Nc,s∉t.Nd:=by
 unfold Yk at h;rw [List.any_eq_false] at h;intro t ht hm;exact h t ht (decide_eq_true hm)
theorem takenB_yes {x:Ng} {s:Int}:Yk x s=true↔∃ t∈x.Nc,s∈t.Nd:=by
 unfold Yk;rw [List.any_eq_true];simp only [decide_eq_true_eq]
theorem Qen {p:Nf} {x:Ng} (h:StateOk p x) {a:Nat} (ha:a < x.Nc.length) {t:Nl} (h1:(t.Nd=[]/\t.Nk=0)\/(1<=t.Nk/\t.Nk<=t.Nd.length)) (h2:∀ s∈t.Nd,Yi p s=true) (h3:t.Nd.Nodup)
  (h4:∀ j (hj:j < x.Nc.length),j≠a->∀ s∈t.Nd,s∉x.Nc[j].Nd) (h5:∀ k (hk:k+1 < t.Nd.length),Jv p x.Nb t.Nd[k] t.Nd[k+1]=true):StateOk p ⟨x.Nb,x.Nc.set a t,x.Ni⟩:=by
 have hm:∀ u∈x.Nc.set a t,u=t\/u∈x.Nc:=fun u hu=>by
  rcases List.mem_or_eq_of_mem_set hu with h | h
  ·exact .inr h
  ·exact .inl h
 refine ⟨h.sw,by simpa using h.tr,h.pos,h.cnt,fun u hu=>?_,fun u hu=>?_,fun u hu=>?_,fun i j hi hj hij s hs=>?_,fun u hu=>?_⟩
 ·rcases hm u hu with rfl | hu
  ·exact h1
  ·exact h.un u hu
 ·rcases hm u hu with rfl | hu
  ·exact h2
  ·exact h.sc u hu
 ·rcases hm u hu with rfl | hu
  ·exact h3
  ·exact h.nd u hu
 ·simp only [List.length_set] at hi hj;simp only [List.getElem_set] at hs ⊢;by_cases h6:a=i
  ·rw [if_pos h6] at hs;rw [if_neg (by omega)];exact h4 j hj (by omega) s hs
  ·rw [if_neg h6] at hs;by_cases h7:a=j
   ·rw [if_pos h7];exact fun hm=>h4 i hi (by omega) s hm hs
   ·rw [if_neg h7];exact h.dj i j hi hj hij s hs
 ·rcases hm u hu with rfl | hu
  ·exact h5
  ·exact h.ld u hu
theorem Qjb {p:Nf} {e:Nr} (h:Zz p e=0):0<=e.Kind/\e.Kind<=6:=by
 unfold Zz at h;by_cases h1:¬ (0<=e.Kind/\e.Kind<=6)
 ·rw [if_pos h1] at h;cases h
 ·omega
theorem Qog {p:Nf} {e:Nr} (h:Zz p e=0) (hk:e.Kind=2):0<=e.A/\e.A.toNat < p.Nb.length/\YH e.B=true:=by
 have h1:=Qjb h;unfold Zz at h;rw [if_neg (by omega),if_pos hk] at h;cases hb:Qdd p e.A with
 | false=>rw [hb] at h;cases h
 | true =>
  rw [hb] at h;cases hc:YH e.B with
  | false=>rw [hc] at h;cases h
  | true =>
   unfold Qdd at hb;simp at hb;exact ⟨hb.1,by omega,rfl⟩
theorem Qjc {p:Nf} {e:Nr} (h:Zz p e=0) (hk:e.Kind≠2):0<=e.A/\e.A.toNat < p.Nc.length/\(e.Kind=0->Yi p e.B=true)/\(e.Kind=1->0<=e.B/\e.B.toNat < p.Nj.length)/\(e.Kind≠0->e.Kind≠1->e.B=0):=by
 have h1:=Qjb h;unfold Zz at h;rw [if_neg (by omega),if_neg hk] at h;cases hb:JV p e.A with
 | false=>rw [hb] at h;cases h
 | true =>
  rw [hb,cond_true] at h;unfold JV at hb;simp at hb;refine ⟨hb.1,by omega,fun h0=>?_,fun h0=>?_,fun h0 h2=>?_⟩
  ·rw [if_pos h0] at h;cases hc:Yi p e.B with
   | true=>rfl
   | false=>rw [hc] at h;cases h
  ·rw [if_neg (by omega),if_pos h0] at h;cases hc:Qda p e.B with
   | false=>rw [hc] at h;cases h
   | true=>unfold Qda at hc;simp at hc;omega
  ·rw [if_neg h0,if_neg h2] at h;by_cases h3:e.B=0
   ·exact h3
   ·rw [if_neg h3] at h;cases h
theorem Qhy {x:Ng} {e:Nr} (h:e.A.toNat < x.Nc.length):YI x e=x.Nc[e.A.toNat]:=by
 unfold YI;rw [List.getElem?_eq_getElem h];rfl
theorem Qrs {p:Nf} {e:Nr} (h:e.A.toNat < p.Nb.length):Qeu p e=p.Nb[e.A.toNat]:=by
 unfold Qeu;rw [List.getElem?_eq_getElem h];rfl
theorem Qhd {p:Nf} {e:Nr} (h:e.B.toNat < p.Nj.length):Yx p e=p.Nj[e.B.toNat]:=by
 unfold Yx;rw [List.getElem?_eq_getElem h];rfl
theorem Qro {p:Nf} (hp:PlantOk p) {x:Ng} (h:StateOk p x) {e:Nr} (he:Zz p e=0) (hs:ZP p x e=0):StateOk p (YZ p x e):=by
  have hk:=Qjb he;unfold YZ;by_cases h2:e.Kind=2
  · rw [if_pos h2];obtain ⟨a0,a1,a2⟩:=Qog he h2;unfold ZP at hs;rw [if_pos h2] at hs;have hn:Yk x (Qeu p e).Nh=false:=by
      cases hb:Yk x (Qeu p e).Nh with
      | false=>rfl
      | true=>rw [hb] at hs;cases hs
    rw [Qrs a1] at hn;refine ⟨by simpa using h.sw,h.tr,fun n hn=>?_,h.cnt,h.un,h.sc,h.nd,h.dj,fun t ht k hk=>?_⟩
    · rcases List.mem_or_eq_of_mem_set hn with h3 | rfl
      · exact h.pos n h3
      · exact a2
    · obtain ⟨r,hr,h3,h4⟩:=leadsB_iff.1 (h.ld t ht k hk);refine leadsB_iff.2 ⟨r,hr,h3,QGm (fun hi hm=>?_) h4⟩;have h5:=Qru hn t ht;rcases List.mem_cons.1 hm with e1 | hm
      · rw [e1] at h5;exact h5 (List.getElem_mem _)
      · rw [List.mem_singleton.1 hm] at h5;exact h5 (List.getElem_mem _)
  rw [if_neg h2];obtain ⟨a0,a1,a2,a3,a4⟩:=Qjc he h2;have ha:e.A.toNat < x.Nc.length:=by rw [h.tr];exact a1
  have ht:YI x e∈x.Nc:=by rw [Qhy ha];exact List.getElem_mem ha
  have hd:∀ j (hj:j < x.Nc.length),j≠e.A.toNat->∀ s∈(YI x e).Nd,s∉x.Nc[j].Nd:=fun j hj hne s hs=>by
    rw [Qhy ha] at hs;exact h.dj _ j ha hj (by omega) s hs
  have hu:=h.un _ ht;have hsc:=h.sc _ ht;have hnd:=h.nd _ ht;have hld:=h.ld _ ht;unfold ZP at hs;rw [if_neg h2] at hs;unfold trX;generalize YI x e=t at *
  by_cases h0:e.Kind=0
  · rw [if_pos h0] at hs;rw [if_pos h0];by_cases hc:t.Nd.length=0
    · rw [if_pos hc] at hs;have hn:Yk x e.B=false:=by
        cases hb:Yk x e.B with
        | false=>rfl
        | true=>rw [hb] at hs;cases hs
      refine Qen h ha (.inr (by simp)) (fun s hs=>?_) (by simp) (fun j hj hne s hs hm=>?_) (fun k hk=>?_)
      · simp only [List.mem_singleton] at hs;subst hs;exact a2 h0
      · simp only [List.mem_singleton] at hs;subst hs;exact Qru hn _ (List.getElem_mem hj) hm
      · simp at hk
    · rw [if_neg hc] at hs;cases hs
  rw [if_neg h0] at hs;rw [if_neg h0];by_cases hc:t.Nd.length=0
  · rw [if_pos hc] at hs;cases hs
  rw [if_neg hc] at hs;have hu2:1<=t.Nk/\t.Nk<=t.Nd.length:=by
    rcases hu with ⟨h3,_⟩ | h3
    · rw [h3] at hc;exact absurd rfl hc
    · exact h3
  by_cases h1:e.Kind=1
  · rw [if_pos h1] at hs;rw [if_pos h1];obtain ⟨b0,b1⟩:=a3 h1;have hr:Yx p e∈p.Nj:=by rw [Qhd b1];exact List.getElem_mem b1
    generalize Yx p e=r at *
    by_cases h3:r.Na.head?=t.Nd.getLast?
    · rw [if_pos h3] at hs;have hn:(r.Na.drop 1).any (Yk x)=false:=by
        cases hb:(r.Na.drop 1).any (Yk x) with
        | false=>rfl
        | true=>rw [hb] at hs;cases hs
      have hl:Yz p x.Nb r r.Na=true:=by
        rw [hn] at hs;cases hb:Yz p x.Nb r r.Na with
        | true=>rfl
        | false=>rw [hb] at hs;cases hs
      rw [List.any_eq_false] at hn;have hn2:∀ s∈r.Na.drop 1,∀ u∈x.Nc,s∉u.Nd:=fun s hs=>Qru (by have:=hn s hs;simpa using this)
      have h2r:=hp.r2 r hr;have hlast:∀ hi:t.Nd.length - 1 < t.Nd.length,∀ hj:0 < r.Na.length,t.Nd[t.Nd.length - 1]=r.Na[0]:=fun hi hj=>by
        rw [List.head?_eq_getElem?,List.getLast?_eq_getElem?,List.getElem?_eq_getElem hj,List.getElem?_eq_getElem hi] at h3;exact (Option.some.inj h3).symm
      refine Qen h ha (.inr ?_) (fun s hs=>?_) ?_ (fun j hj hne s hs=>?_) (fun k hk=>?_)
      · simp only [List.length_append];omega
      · rcases List.mem_append.1 hs with h4 | h4
        · exact hsc s h4
        · exact hp.rs r hr s (List.mem_of_mem_drop h4)
      · show (t.Nd++r.Na.drop 1).Nodup;rw [List.nodup_append];refine ⟨hnd,List.Nodup.sublist (List.drop_sublist _ _) (hp.rd r hr),fun s hs u hu e=>?_⟩;subst e;exact hn2 s hu t ht hs
      · rcases List.mem_append.1 hs with h4 | h4
        · exact hd j hj hne s h4
        · exact hn2 s h4 _ (List.getElem_mem hj)
      · simp only [List.length_append,List.length_drop] at hk;by_cases h5:k+1 < t.Nd.length
        · simp only [List.getElem_append,h5,dif_pos,show k < t.Nd.length by omega];exact hld k h5
        · have e2 : (t.Nd ++ r.Na.drop 1)[k + 1]'(by simp only [List.length_append, List.length_drop]; omega) = r.Na[k + 1 - t.Nd.length + 1]'(by omega) := by
            rw [List.getElem_append_right (by omega),List.getElem_drop];congr 1;omega
          have e1:(t.Nd++r.Na.drop 1)[k]'(by simp only [List.length_append, List.length_drop];omega)=r.Na[k+1 - t.Nd.length]'(by omega) := by
            by_cases h6:k+1=t.Nd.length
            · rw [List.getElem_append_left (show k < t.Nd.length by omega)];have:=hlast (by omega) (by omega);simp only [show k+1 - t.Nd.length=0 by omega,<-this];congr 1;omega
            · rw [List.getElem_append_right (by omega),List.getElem_drop];congr 1;omega
          rw [e1,e2];refine leadsB_iff.2 ⟨r,hr,pairB_iff.2 ⟨k+1 - t.Nd.length,by omega,rfl,rfl⟩,QGl hl fun s hs=>?_⟩;rcases List.mem_cons.1 hs with rfl | hs
          · exact List.getElem_mem _
          · rw [List.mem_singleton.1 hs];exact List.getElem_mem _
    · rw [if_neg h3] at hs;cases hs
  rw [if_neg h1] at hs;rw [if_neg h1];by_cases h4:e.Kind=4
  · rw [if_pos h4] at hs;rw [if_neg (by omega),if_pos h4];have hx:1 < t.Nk:=by
      by_cases h5:1 < t.Nk
      · exact h5
      · rw [if_neg h5] at hs;cases hs
    refine Qen h ha (.inr ?_) (fun s hs=>hsc s (List.mem_of_mem_drop hs)) (List.Nodup.sublist (List.drop_sublist _ _) hnd) (fun j hj hne s hs=>hd j hj hne s (List.mem_of_mem_drop hs)) (fun k hk=>?_)
    · simp only [List.length_drop];omega
    · simp only [List.length_drop] at hk;simp only [List.getElem_drop];have:=hld (1+k) (by omega);exact this
  rw [if_neg h4] at hs;rw [show (if e.Kind=4 then (⟨t.Nd.drop 1,t.Nk - 1⟩:Nl) else if e.Kind=5 then ⟨t.Nd.take (t.Nd.length - 1),t.Nk⟩ else ⟨[],0⟩)=(if e.Kind=5 then ⟨t.Nd.take (t.Nd.length - 1),t.Nk⟩ else ⟨[],0⟩) from if_neg h4];by_cases h35:e.Kind=3\/e.Kind=5
  · rw [if_pos h35] at hs;have hx:t.Nk < t.Nd.length:=by
      by_cases h5:t.Nk < t.Nd.length
      · exact h5
      · rw [if_neg h5] at hs;cases hs
    by_cases h3:e.Kind=3
    · rw [if_pos h3];exact Qen h ha (.inr ⟨by show 1<=t.Nk+1;omega,by show t.Nk+1<=(t.Nd.length:Int);omega⟩) hsc hnd hd hld
    · rw [if_neg h3,if_pos (by omega)];refine Qen h ha (.inr ?_) (fun s hs=>hsc s (List.mem_of_mem_take hs)) (List.Nodup.sublist (List.take_sublist _ _) hnd) (fun j hj hne s hs=>hd j hj hne s (List.mem_of_mem_take hs)) (fun k hk=>?_)
      · simp only [List.length_take];omega
      · simp only [List.length_take] at hk;simp only [List.getElem_take];exact hld k (by omega)
  · rw [if_neg (by omega),if_neg (by omega)];exact Qen h ha (.inl ⟨rfl,rfl⟩) (fun s hs=>by simp at hs) (by simp) (fun j hj hne s hs=>by simp at hs) (fun k hk=>by simp at hk)
end Go.Gw

end
section
set_option maxRecDepth 4096
namespace Go.Gw
open Go
attribute [local irreducible] loop
def chE (p:Nf) (x:Ng) (n:Nat) (t:Nl) (k:Nat) (s:Int):Int :=
 bif Yi p s then (bif decide (s∈t.Nd.take k)||(x.Nc.take n).any (fun o=>decide (s∈o.Nd)) then 17 else if k=0 then 0 else bif Jv p x.Nb (t.Nd[k - 1]?.getD 0) s then 0 else 23) else 6
def ZW (p:Nf) (x:Ng) (n:Nat) (t:Nl) (k:Nat):Int:=(t.Nd[k]?.map (chE p x n t k)).getD 0
def JF (t:Nl):Bool:=if t.Nd.length=0 then decide (t.Nk=0) else decide (1<=t.Nk)&&decide (t.Nk<=t.Nd.length)
def tsE (p:Nf) (x:Ng) (n:Nat) (t:Nl):Int:=bif JF t then (match Xx (ZW p x n t) t.Nd.length with | some k=>ZW p x n t k | none=>0) else 3
def Je (p:Nf) (x:Ng) (n:Nat):Int:=(x.Nc[n]?.map (tsE p x n)).getD 0
def Qer (p:Nf) (x:Ng):Int :=
 if x.Nb.length=p.Nb.length/\x.Nc.length=p.Nc.length then
  (bif x.Nb.all YH&&Qad x.Ni then (match Xx (Je p x) x.Nc.length with | some k=>Je p x k | none=>0) else 2) else 10
theorem tsE_zero {p:Nf} {x:Ng} {n:Nat} {t:Nl}:tsE p x n t=0↔JF t=true/\∀ k (hk:k < t.Nd.length),chE p x n t k t.Nd[k]=0:=by
 unfold tsE;cases hu:JF t with
 | false=>simp
 | true =>
  simp only [cond_true,true_and];have hg:∀ k (hk:k < t.Nd.length),ZW p x n t k=chE p x n t k t.Nd[k]:=fun k hk=>ZA _ _ _ hk
  cases hf:Xx (ZW p x n t) t.Nd.length with
  | some k =>
   obtain ⟨h1,h2,_⟩:=JN hf;constructor
   ·intro h;exact absurd h h2
   ·intro h;exact absurd ((hg k h1).trans (h k h1)) h2
  | none=>exact ⟨fun _ k hk=>(hg k hk).symm.trans (Qft hf k hk),fun _=>rfl⟩
theorem chE_zero {p:Nf} {x:Ng} {n:Nat} {t:Nl} {k:Nat} {s:Int}:chE p x n t k s=0↔Yi p s=true/\s∉t.Nd.take k/\(∀ o∈x.Nc.take n,s∉o.Nd)/\(k≠0->Jv p x.Nb (t.Nd[k - 1]?.getD 0) s=true):=by
  unfold chE;cases Yi p s with
  | false=>simp
  | true =>
    simp only [cond_true,true_and];by_cases h1:s∈t.Nd.take k
    · simp [h1]
    by_cases h2:∀ o∈x.Nc.take n,s∉o.Nd
    · have h3 : (x.Nc.take n).any (fun o => decide (s ∈ o.Nd)) = false := by
        rw [List.any_eq_false];intro o ho hm;exact h2 o ho (of_decide_eq_true hm)
      rw [h3,decide_eq_false h1];by_cases hk:k=0
      · simp [hk];exact h2
      · simp only [Bool.or_false,cond_false,if_neg hk];cases Jv p x.Nb (t.Nd[k - 1]?.getD 0) s with
        | false=>simp [hk]
        | true=>simp [h1];exact h2
    · have h3 : (x.Nc.take n).any (fun o => decide (s ∈ o.Nd)) = true := by
        cases hb:(x.Nc.take n).any (fun o=>decide (s∈o.Nd)) with
        | true=>rfl
        | false =>
          rw [List.any_eq_false] at hb;exact absurd (fun o ho hm=>hb o ho (decide_eq_true hm)) h2
      rw [h3,Bool.or_true];simp [h2]
theorem undB_iff {t:Nl}:JF t=true↔(t.Nd=[]/\t.Nk=0)\/(1<=t.Nk/\t.Nk<=t.Nd.length):=by
 unfold JF;by_cases h:t.Nd.length=0
 ·rw [if_pos h];have h2:t.Nd=[]:=List.length_eq_zero_iff.1 h;simp only [decide_eq_true_eq];constructor
  ·intro h3;exact .inl ⟨h2,h3⟩
  ·rintro (h3 | h3)
   ·exact h3.2
   ·omega
 ·rw [if_neg h];simp only [Bool.and_eq_true,decide_eq_true_eq];constructor
  ·intro h3;exact .inr h3
  ·rintro (h3 | h3)
   ·rw [h3.1] at h;exact absurd rfl h
   ·exact h3
theorem state_iff {p:Nf} {x:Ng}:Qer p x=0↔StateOk p x:=by
  have hg:∀ k (hk:k < x.Nc.length),Je p x k=tsE p x k x.Nc[k]:=fun k hk=>ZA _ _ _ hk
  unfold Qer;constructor
  · intro h;by_cases h1:x.Nb.length=p.Nb.length/\x.Nc.length=p.Nc.length
    · rw [if_pos h1] at h;cases h2:x.Nb.all YH&&Qad x.Ni with
      | false=>rw [h2] at h;cases h
      | true =>
        rw [h2,cond_true] at h;rw [Bool.and_eq_true,List.all_eq_true] at h2;cases hf:Xx (Je p x) x.Nc.length with
        | some k=>rw [hf] at h;exact absurd h (JN hf).2.1
        | none =>
          have hz:∀ n (hn:n < x.Nc.length),JF x.Nc[n]=true/\∀ k (hk:k < x.Nc[n].Nd.length),chE p x n x.Nc[n] k x.Nc[n].Nd[k]=0:=fun n hn=>tsE_zero.1 ((hg n hn).symm.trans (Qft hf n hn))
          refine ⟨h1.1,h1.2,h2.1,h2.2,fun t ht=>?_,fun t ht s hs=>?_,fun t ht=>?_,fun i j hi hj hij s hs hm=>?_,fun t ht k hk=>?_⟩
          · obtain ⟨n,hn,rfl⟩:=List.getElem_of_mem ht;exact undB_iff.1 (hz n hn).1
          · obtain ⟨n,hn,rfl⟩:=List.getElem_of_mem ht;obtain ⟨k,hk,rfl⟩:=List.getElem_of_mem hs;exact (chE_zero.1 ((hz n hn).2 k hk)).1
          · obtain ⟨n,hn,rfl⟩:=List.getElem_of_mem ht;exact Qwv fun k hk=>(chE_zero.1 ((hz n hn).2 k hk)).2.1
          · rcases Nat.lt_or_gt_of_ne hij with h3 | h3
            · obtain ⟨k,hk,rfl⟩:=List.getElem_of_mem hm;exact (chE_zero.1 ((hz j hj).2 k hk)).2.2.1 _ (List.mem_take_iff_getElem.2 ⟨i,by omega,rfl⟩) hs
            · obtain ⟨k,hk,rfl⟩:=List.getElem_of_mem hs;exact (chE_zero.1 ((hz i hi).2 k hk)).2.2.1 _ (List.mem_take_iff_getElem.2 ⟨j,by omega,rfl⟩) hm
          · obtain ⟨n,hn,rfl⟩:=List.getElem_of_mem ht;have:=(chE_zero.1 ((hz n hn).2 (k+1) hk)).2.2.2 (by omega);rwa [Nat.add_sub_cancel,List.getElem?_eq_getElem (show k < x.Nc[n].Nd.length by omega),Option.getD_some] at this
    · rw [if_neg h1] at h;cases h
  · intro h;rw [if_pos ⟨h.sw,h.tr⟩,show (x.Nb.all YH&&Qad x.Ni)=true by rw [Bool.and_eq_true,List.all_eq_true];exact ⟨h.pos,h.cnt⟩,cond_true];rw [QEu fun n hn=>by
      rw [hg n hn,tsE_zero];have ht:=List.getElem_mem hn;refine ⟨undB_iff.2 (h.un _ ht),fun k hk=>chE_zero.2 ⟨h.sc _ ht _ (List.getElem_mem hk),QLm (h.nd _ ht) hk,fun o ho hm=>?_,fun hk0=>?_⟩⟩
      · obtain ⟨i,hi,rfl⟩:=List.mem_take_iff_getElem.1 ho;exact h.dj i n (by omega) hn (by omega) _ hm (List.getElem_mem hk)
      · rw [List.getElem?_eq_getElem (show k - 1 < x.Nc[n].Nd.length by omega),Option.getD_some];have:=h.ld _ ht (k - 1) (by omega);simp only [show k - 1+1=k by omega] at this;exact this]
end Go.Gw

end
section
set_option maxRecDepth 4096
namespace Go.Gw
open Go
attribute [local irreducible] loop
theorem QFm {a b:List Int} (ha:0 < a.length) (hb:0 < b.length):decide (a[0]=b[b.length - 1])=decide (a.head?=b.getLast?):=by
 rw [List.head?_eq_getElem?,List.getLast?_eq_getElem?,List.getElem?_eq_getElem ha,List.getElem?_eq_getElem (show b.length - 1 < b.length by omega)];simp only [Option.some.injEq]
theorem QBe {p:Nf} (hp:PlantOk p) {x:Ng} (h:StateOk p x) {e:Nr} (he:Zz p e=0) :
    Runs (Qea (some ⟨p,x⟩) e) fun r=>r.2=ZP p x e/\(ZP p x e=0->r.1=some ⟨p,YZ p x e⟩):=by
  have hs:=h.s hp;have hw4:=hp.w4;have ht3:=hp.t3;have hkd:=Qjb he;have hsl:=h.sw;have htl:=h.tr;unfold Qea;by_cases h2:e.Kind=2
  · obtain ⟨a0,a1,a2⟩:=Qog he h2;have e1:ZP p x e=(bif Yk x (Qeu p e).Nh then 17 else 0):=by unfold ZP;rw [if_pos h2]
    have e2:YZ p x e=⟨x.Nb.set e.A.toNat e.B,x.Nc,x.Ni⟩:=by unfold YZ;rw [if_pos h2]
    rw [e1,e2,Qrs a1,decide_eq_true h2,cond_true,Qp];show Runs (Option.bind (idx p.Nb e.A) _) _;rw [Qdv a0 a1,Qp,Qmi p hs _ (by simp),Qp];simp only [List.any_cons,List.any_nil,Bool.or_false];cases Yk x p.Nb[e.A.toNat].Nh with
    | true=>exact Runs.some ⟨rfl,fun hh=>by cases hh⟩
    | false =>
      simp only [cond_false];rw [Qnz _ (by show x.Nb.length < _;omega),Qp];show Runs (Option.bind (idx x.Nb e.A) _) _;rw [Qdv a0 (by omega),Qp];exact Runs.some ⟨rfl,fun _=>rfl⟩
  obtain ⟨a0,a1,a2,a3,a4⟩:=Qjc he h2;have ha:e.A.toNat < x.Nc.length:=by omega
  have htm:YI x e∈x.Nc:=by rw [Qhy ha];exact List.getElem_mem ha
  have hcl:=h.len htm;have hs8:=hp.s8;have hu:=h.un _ htm;have e2:YZ p x e=⟨x.Nb,x.Nc.set e.A.toNat (trX p (YI x e) e),x.Ni⟩:=by unfold YZ;rw [if_neg h2]
  have hnx:=fun c u=>QJb p x a0 ha (by omega) c u
  rw [e2,decide_eq_false h2,cond_false,Qp];show Runs (Option.bind (idx x.Nc e.A) _) _;rw [Qdv a0 ha,Qp,<-Qhy ha];unfold ZP trX;simp only [if_neg h2];generalize YI x e=t at *
  by_cases h0:e.Kind=0
  · simp only [if_pos h0,decide_eq_true h0,cond_true];rw [Yq,Qp,Qmi p hs _ (by simp),Qp,Yq,Qp,Zs _ (by simp),Qp,Qp];simp only [List.any_cons,List.any_nil,Bool.or_false,QFf];by_cases hc:t.Nd.length=0
    · simp only [hc,Int.natCast_zero,decide_true,cond_true,ne_eq,not_true_eq_false,if_false,if_true];cases Yk x e.B with
      | true=>exact Runs.some ⟨rfl,fun hh=>by cases hh⟩
      | false =>
        simp only [Bool.not_false,cond_true,decide_true,Bool.not_true,cond_false];rw [hnx,Qp];exact Runs.some ⟨rfl,fun _=>rfl⟩
    · rw [if_neg hc,decide_eq_false (show ¬ (t.Nd.length:Int)=0 by omega)];exact Runs.some ⟨rfl,fun hh=>by cases hh⟩
  simp only [if_neg h0,decide_eq_false h0,cond_false];by_cases hc:t.Nd.length=0
  · rw [decide_eq_true (show (t.Nd.length:Int)=0 by omega),if_pos hc];exact Runs.some ⟨rfl,fun hh=>by cases hh⟩
  rw [decide_eq_false (show ¬ (t.Nd.length:Int)=0 by omega),cond_false,Yq,Qp,if_neg hc];have hu2:1<=t.Nk/\t.Nk<=t.Nd.length:=by
    rcases hu with ⟨h3,_⟩ | h3
    · rw [h3] at hc;exact absurd rfl hc
    · exact h3
  by_cases h1:e.Kind=1
  · simp only [if_pos h1,decide_eq_true h1,cond_true];obtain ⟨b0,b1⟩:=a3 h1;rw [show (⟨p,x⟩:Nm).Nw.Nj=p.Nj from rfl,Qdv b0 b1,Qp,<-Qhd b1];have hr:Yx p e∈p.Nj:=by rw [Qhd b1];exact List.getElem_mem b1
    generalize Yx p e=r at *
    have hr2:=hp.r2 r hr;have hr8:=hp.r8 r hr;have hrn:=hp.rn r hr;rw [Qtu (by omega),Qp,show (0:Int)=((0:Nat):Int) from rfl,Xr (show 0 < r.Na.length by omega),Qp,
      show w64 ((t.Nd.length:Int) - 1)=((t.Nd.length - 1:Nat):Int) by rw [Zc (by omega)];omega,Xr (show t.Nd.length - 1 < t.Nd.length by omega),Qp,Yq,Qp,
      Qmi p hs _ (by simp;omega),Qp,Yq,Qp,Quw hrn hsl (by omega) (by omega),Qp,Yq,Qp,Zs _ (by simp),Qp,QFm (by omega) (by omega),Qdt]
    by_cases h3:r.Na.head?=t.Nd.getLast?
    · simp only [h3,decide_true,cond_true,Int.natCast_zero,ne_eq,not_true_eq_false,if_false,if_true];cases hb:(r.Na.drop 1).any (Yk x) with
      | true=>exact Runs.some ⟨rfl,fun hh=>by cases hh⟩
      | false =>
        cases hl:Yz p x.Nb r r.Na with
        | false=>exact Runs.some ⟨rfl,fun hh=>by cases hh⟩
        | true =>
          simp only [Bool.not_false,cond_true,Int.natCast_zero,not_true_eq_false,if_false,decide_true,Bool.not_true,cond_false];rw [QBz _ _ (by omega) (by simp;omega),Qp,hnx,Qp];exact Runs.some ⟨rfl,fun _=>rfl⟩
    · simp only [h3,decide_false,cond_false,if_false];exact Runs.some ⟨rfl,fun hh=>by cases hh⟩
  simp only [if_neg h1,decide_eq_false h1,cond_false];by_cases h3:e.Kind=3
  · simp only [if_pos h3,decide_eq_true h3,cond_true];rw [if_neg (by omega),if_pos (.inl h3),hnx,Qp,Zc (by omega)];by_cases h5:t.Nk < t.Nd.length
    · rw [if_pos h5,decide_eq_true h5];exact Runs.some ⟨rfl,fun _=>rfl⟩
    · rw [if_neg h5,decide_eq_false h5];exact Runs.some ⟨rfl,fun hh=>by cases hh⟩
  simp only [if_neg h3,decide_eq_false h3,cond_false];by_cases h4:e.Kind=4
  · simp only [if_pos h4,decide_eq_true h4,cond_true];rw [Qtu (by omega),Qp,hnx,Qp,Yq,Qp,Zc (by omega)];by_cases h5:1 < t.Nk
    · rw [if_pos h5,decide_eq_true h5];exact Runs.some ⟨rfl,fun _=>rfl⟩
    · rw [if_neg h5,decide_eq_false h5];exact Runs.some ⟨rfl,fun hh=>by cases hh⟩
  simp only [if_neg h4,decide_eq_false h4,cond_false];by_cases h5:e.Kind=5
  · simp only [if_pos h5,decide_eq_true h5,cond_true];rw [if_pos (.inr h5),show w64 ((t.Nd.length:Int) - 1)=((t.Nd.length - 1:Nat):Int) by rw [Zc (by omega)];omega,Qcn (by omega),Qp,hnx,Qp];by_cases h6:t.Nk < t.Nd.length
    · rw [if_pos h6,decide_eq_true h6];exact Runs.some ⟨rfl,fun _=>rfl⟩
    · rw [if_neg h6,decide_eq_false h6];exact Runs.some ⟨rfl,fun hh=>by cases hh⟩
  simp only [if_neg h5,decide_eq_false h5,cond_false];rw [if_neg (by omega),hnx,Qp,Yq,Qp];by_cases h6:t.Nd.length=1
  · rw [if_pos h6,decide_eq_true (by omega)];exact Runs.some ⟨rfl,fun _=>rfl⟩
  · rw [if_neg h6,decide_eq_false (by omega)];exact Runs.some ⟨rfl,fun hh=>by cases hh⟩
/-! ### The beginning, copies -/
theorem QRg (p:Nf) {x:Ng} (h:StateS x):Qge (some ⟨p,x⟩)=some x:=by
 have h1:=h.sw;have h2:=h.tr;unfold Qge;rw [Qp];show Option.bind (Option.bind (Qbu x.Nb) _) _=_;rw [Qnz _ (by omega),Qp,Qp];simp only [Qp];have hl:=Qbr (step:=Qgd ⟨p,x⟩) (o:=x.Nc) (fun k=>((k:Int),x.Nc.take k)) x.Nc.length (fun k hk=>by
  unfold Qgd;show (bif decide ((k:Int) < (x.Nc.length:Int)) then Option.bind (idx x.Nc (k:Int)) _ else _)=_;rw [XK hk,cond_true,Xr hk,Qp,Qnz _ (by have:=h.ch _ (List.getElem_mem hk);omega),Qp,JI (by simp;omega),Qp,XD k (by omega)];show some (Sum.inl (_,x.Nc.take k++[x.Nc[k]]))=_;have:=Qrt x.Nc id k hk;simp only [List.map_id,id_eq] at this;rw [this]) (by
  unfold Qgd;show (bif decide ((x.Nc.length:Int) < (x.Nc.length:Int)) then _ else _)=_;rw [XM,List.take_length];rfl)
 have hl2:loop (Qgd ⟨p,x⟩) (0,([]:List Nl))=some x.Nc:=hl;rw [hl2];rfl
end Go.Gw

end
section
set_option maxRecDepth 4096
namespace Go.Gw
open Go
attribute [local irreducible] loop
def QAe:Ng:=⟨[],[],0⟩
def evE (p:Nf) (x:Ng) (e:Nr):Int:=if Zz p e=0 then ZP p x e else Zz p e
def evs (p:Nf):Ng->Nat->List Nr->Ng⊕(Nat×Int)
 | x,_,[]=>.inl x
 | x,k,e::l=>if evE p x e=0 then evs p (YZ p x e) (k+1) l else .inr (k,evE p x e)
end Go.Gw

end
section
set_option maxRecDepth 4096
namespace Go.Gw
open Go
attribute [local irreducible] loop
end Go.Gw

end
section
set_option maxRecDepth 4096
namespace Go.Gw
open Go
attribute [local irreducible] loop
theorem Qxq {p:Nf} {x:Ng} {e:Nr} (hk:e.Kind=1) (h:ZP p x e=0) :
  (YI x e).Nd.length≠0/\(Yx p e).Na.head?=(YI x e).Nd.getLast?/\(∀ s∈(Yx p e).Na.drop 1,Yk x s=false)/\Yz p x.Nb (Yx p e) (Yx p e).Na=true:=by
 unfold ZP at h;rw [if_neg (by omega),if_neg (by omega)] at h;by_cases hc:(YI x e).Nd.length=0
 ·rw [if_pos hc] at h;cases h
 rw [if_neg hc,if_pos hk] at h;by_cases h3:(Yx p e).Na.head?=(YI x e).Nd.getLast?
 ·rw [if_pos h3] at h;cases hb:((Yx p e).Na.drop 1).any (Yk x) with
  | true=>rw [hb] at h;cases h
  | false =>
   rw [hb] at h;cases hl:Yz p x.Nb (Yx p e) (Yx p e).Na with
   | false=>rw [hl] at h;cases h
   | true =>
    rw [List.any_eq_false] at hb;exact ⟨hc,h3,fun s hs=>by have:=hb s hs;simpa using this,rfl⟩
 ·rw [if_neg h3] at h;cases h
theorem QRj {x:Ng} {a:Nat} {t:Nl} {e:Nr}:YI ⟨x.Nb,x.Nc.set a t,x.Ni⟩ e=if a=e.A.toNat/\a < x.Nc.length then t else YI x e:=by
 unfold YI;simp only [List.getElem?_set];by_cases h:a=e.A.toNat
 ·subst h;by_cases h2:e.A.toNat < x.Nc.length
  ·simp [h2]
  ·simp [h2]
 ·simp [h]
theorem QNm {p:Nf} (hp:PlantOk p) {x:Ng} (h:StateOk p x) {a:Nr} (ka:a.Kind=1) (ea:Zz p a=0) (sa:ZP p x a=0) {s:Int} (h1:s∈(Yx p a).Na):Yk (YZ p x a) s=true:=by
 have hy:=Qro hp h ea sa;obtain ⟨a0,a1,_,a3,_⟩:=Qjc ea (by omega);obtain ⟨ca,cl,_,_⟩:=Qxq ka sa;have hx:x.Nc.length=p.Nc.length:=h.tr;have hyl:(YZ p x a).Nc.length=p.Nc.length:=hy.tr;have ha:a.A.toNat < (YZ p x a).Nc.length:=by omega
 refine takenB_yes.2 ⟨YI (YZ p x a) a,by rw [Qhy ha];exact List.getElem_mem ha,?_⟩;have e1:YI (YZ p x a) a=⟨(YI x a).Nd++(Yx p a).Na.drop 1,(YI x a).Nk⟩:=by
  unfold YZ;rw [if_neg (by omega),QRj,if_pos ⟨rfl,by omega⟩];unfold trX;rw [if_neg (by omega),if_pos ka]
 rw [e1];show s∈(YI x a).Nd++(Yx p a).Na.drop 1;cases hr:(Yx p a).Na with
 | nil=>rw [hr] at h1;cases h1
 | cons r0 rs =>
  rw [hr] at h1 cl;rcases List.mem_cons.1 h1 with rfl | h3
  ·refine List.mem_append_left _ (List.mem_of_getLast? ?_);rw [<-cl];rfl
  ·exact List.mem_append_right _ h3
end Go.Gw

end
section
set_option maxRecDepth 4096
namespace Go.Gw
open Go
attribute [local irreducible] loop
end Go.Gw

end
section
set_option maxRecDepth 4096
namespace Go.Gw
open Go
attribute [local irreducible] loop
theorem Qfw (l:List Int) (v:Int) (hl:l.length < 1000000):Qbi l v=some (decide (v∈l)):=by
 unfold Qbi;rw [Y0 l (fun x=>decide (x=v)) (fun _ _=>true),Qp]
 ·rcases ZC (p:=fun x=>decide (x=v)) (res:=fun _ _=>true) l 0 with ⟨k1,k2⟩ | ⟨j,x,k1,k2,k3⟩
  ·rw [k1,<-Qta,k2];rfl
  ·rw [k1,<-Qta,k3];rfl
 ·intro k hk;unfold Qnp;rw [XK hk,Xr hk,XD k (by omega)];rfl
 ·unfold Qnp;rw [XM];rfl
theorem QLq (l:List ByteArray) (s:ByteArray) (hl:l.length < 1000000):Qll l s=some (Qag (fun x=>decide (x=s)) l):=by
 unfold Qll Qag;rw [Y0 l (fun x=>decide (x=s)) (fun k _=>(k:Int)),Qp,Qeq]
 ·intro k hk;unfold Qqt;rw [XK hk,Xr hk,XD k (by omega)];rfl
 ·unfold Qqt;rw [XM];rfl
theorem Qvw (l:List ByteArray) (s:ByteArray):(l.any fun x=>decide (x=s))=Yw l s:=by
 unfold Yw;congr 1;funext x;exact decide_eq_decide.2 eq_comm
theorem Qvx {α:Type} (f:α->ByteArray) (l:List α) (s:ByteArray):(l.any fun x=>decide (f x=s))=Yw (l.map f) s:=by
 rw [<-Qvw,List.any_map];rfl
theorem Qxk (l:List ByteArray) (hl:l.length < 1000):Qhb l=some (match Xx (Y5 l) l.length with | some i=>((i:Int),Y5 l i) | none=>(0,0)):=by
 unfold Qhb;have key:loop (Qha l) 0=_:=JQ (step:=Qha l) (fun k=>(k:Int)) l.length (Y5 l) (fun i e=>((i:Int),e)) () (fun k hk _=>by
  have hs:Y5 l k=Zm l[k] (l.take k):=ZA _ _ _ hk;rw [hs];unfold Qha Zm;rw [XK hk,cond_true,Xr hk,Qp,Qnn,Qp];cases J3 l[k]
  ·rfl
  ·simp only [Bool.not_true,cond_false,Qp,cond_true];rw [Qcn (by omega),Qp,QLq _ _ (by simp;omega),Qp,Qoq,Qvw,XD k (by omega)];cases Yw (l.take k) l[k]<;>rfl) (fun _=>by
  unfold Qha;rw [XM];rfl)
 rw [key,Qp];cases Xx (Y5 l) l.length<;>rfl
theorem Qrn {α ρ:Type} {step:Int->Option (Int⊕(ρ⊕Unit))} (xs:List α) (n:Nat) (hn:n<=xs.length) (p:α->Bool) (c:ρ)
  (hs:∀ k (hk:k < xs.length),k < n->step (k:Int)=(bif p xs[k] then some (.inr (.inl c)) else some (.inl ((k+1:Nat):Int))))
  (he:step (n:Int)=some (.inr (.inr ()))):loop step 0=some (if (xs.take n).any p=true then .inl c else .inr ()):=by
 have hlen:(xs.take n).length=n:=by simp;omega
 rw [Y0 (xs.take n) p (fun _ _=>c) (fun k hk=>by
  rw [hlen] at hk;rw [hs k (by omega) hk];simp only [List.getElem_take]) (by rw [hlen];exact he)]
 rcases ZC (p:=p) (res:=fun _ _=>c) (xs.take n) 0 with ⟨k1,k2⟩ | ⟨j,x,k1,k2,k3⟩
 ·rw [k1,k2];rfl
 ·rw [k1,k3];rfl
theorem QMz {p:Nf} (h:PlantS p) (k:Nat) (hk:k < p.Nb.length):Qls p k=some (Zo p k):=by
 have h1:=h.sw;have h2:=h.se;have hs:Zo p k=swE p k p.Nb[k]:=ZA _ _ _ hk;have l0:loop (Qlq p.Nb[k] (k:Int) p) 0=some (if (p.Nb.take k).any (fun o=>decide (o.Name=p.Nb[k].Name))=true then .inl 5 else .inr ()) :=
  Qrn p.Nb k (by omega) _ _ (fun j hj hjk=>by
   unfold Qlq;rw [XK hjk,cond_true,Xr hj,Qp,XD j (by omega)]) (by
   unfold Qlq;rw [XM];rfl)
 have l1:loop (Qlr p.Nb[k] (k:Int) p) 0=some (if (p.Nb.take k).any (fun o=>decide (o.Nh=p.Nb[k].Nh))=true then .inl 26 else .inr ()) :=
  Qrn p.Nb k (by omega) _ _ (fun j hj hjk=>by
   unfold Qlr;rw [XK hjk,cond_true,Xr hj,Qp,XD j (by omega)]) (by
   unfold Qlr;rw [XM];rfl)
 rw [hs];unfold Qls swE swX Zm;rw [Xr hk,Qp,Qnn,Qp,l0,l1,Qvx (fun o:Ns=>o.Name),show Zx p.Nb[k].Nh 0 (w64 ((p.Na.length:Int) - 1))=some (Yi p p.Nb[k].Nh) by rw [Qas,Zc (by omega)];rfl];cases J3 p.Nb[k].Name
 ·rfl
 ·cases Yw ((p.Nb.take k).map (·.Name)) p.Nb[k].Name
  ·cases Yi p p.Nb[k].Nh
   ·rfl
   ·cases (p.Nb.take k).any (fun o=>decide (o.Nh=p.Nb[k].Nh))<;>rfl
  ·rfl
theorem Qqn (n:Int):Zx n 0 1=some (YH n):=by
 rw [Qas];congr 1;unfold YH;rw [Bool.eq_iff_iff];simp only [Bool.and_eq_true,Bool.or_eq_true,decide_eq_true_eq];omega
theorem QMx {p:Nf} (h:PlantS p) (k:Nat) (hk:k < p.Nj.length):Qlp p k=some (Zn p k):=by
 have h1:=h.ro;have h2:=h.se;have h3:=h.sw;obtain ⟨_,hr,hn⟩:=h.rn _ (List.getElem_mem hk);have hs:Zn p k=rtE p k p.Nj[k]:=ZA _ _ _ hk;have l0:loop (Qlm p.Nj[k] p (k:Int)) 0=some (if (p.Nj.take k).any (fun o=>decide (o.Name=p.Nj[k].Name))=true then .inl 5 else .inr ()) :=
  Qrn p.Nj k (by omega) _ _ (fun j hj hjk=>by
   unfold Qlm;rw [XK hjk,cond_true,Xr hj,Qp,XD j (by omega)]) (by
   unfold Qlm;rw [XM];rfl)
 rw [hs];unfold Qlp rtE;rw [Xr hk,Qp,Qnn,Qp,l0,Qvx (fun o:Nn=>o.Name)];generalize p.Nj[k]=r at hr hn ⊢;have l1:loop (Qln r p) 0=some (match Xx (Jb p r) r.Na.length with | some i=>.inl (Jb p r i) | none=>.inr ()) :=
  JQ (fun k=>(k:Int)) r.Na.length (Jb p r) (fun _ e=>e) () (fun k hk _=>by
   have hs:Jb p r k=rsE p r k r.Na[k]:=ZA _ _ _ hk;rw [hs];unfold Qln rsE;rw [XK hk,cond_true,Xr hk,Qp,show Zx r.Na[k] 0 (w64 ((p.Na.length:Int) - 1))=some (Yi p r.Na[k]) by rw [Qas,Zc (by omega)];rfl,Qp,Qcn (by omega),Qp,Qp,Qfw _ _ (by simp;omega),Qp,XD k (by omega)];cases Yi p r.Na[k]<;>cases decide (r.Na[k]∈r.Na.take k)<;>rfl) (fun _=>by
   unfold Qln;rw [XM];rfl)
 have l2:r.Np.length=p.Nb.length->loop (Qlo r p) 0=some (Ye (JR r) (fun _ _=>(2:Int)) 0 (r.Np.zip p.Nb)):=fun he =>
  Y0 (r.Np.zip p.Nb) _ _ (fun k hk=>by
   rw [Qna he] at hk;unfold Qlo;rw [XK hk,cond_true,Xr (show k < p.Nb.length by omega),Qp,Qfw _ _ (by omega),Qp,Xr hk,XD k (by omega)];simp only [List.getElem_zip,JR,Qp,Qqn];cases decide (p.Nb[k].Nh∈r.Na)<;>rfl) (by
   rw [Qna he];unfold Qlo;rw [XM];rfl)
 unfold Zm;cases J3 r.Name
 ·rfl
 ·cases Yw ((p.Nj.take k).map (·.Name)) r.Name
  ·simp only [Bool.not_true,cond_false,cond_true,Qp,Xn,if_true,Bool.false_eq_true,if_false];unfold rtX;by_cases h4:r.Na.length < 2
   ·rw [if_pos h4,decide_eq_true (show (r.Na.length:Int) < 2 by omega)];rfl
   rw [if_neg h4,decide_eq_false (show ¬ (r.Na.length:Int) < 2 by omega)];by_cases h5:p.Na.length < r.Na.length
   ·rw [if_pos h5,decide_eq_true (show (p.Na.length:Int) < r.Na.length by omega)];rfl
   rw [if_neg h5,decide_eq_false (show ¬ (p.Na.length:Int) < r.Na.length by omega),l1];simp only [cond_false,Qp];cases Xx (Jb p r) r.Na.length with
   | some i=>rfl
   | none =>
    simp only [Xn];by_cases h6:r.Np.length=p.Nb.length
    ·rw [if_pos h6,decide_eq_true (show (r.Np.length:Int)=p.Nb.length by omega),Bool.not_true,cond_false,l2 h6,Qp];rcases ZC (p:=JR r) (res:=fun _ _=>(2:Int)) (r.Np.zip p.Nb) 0 with ⟨k1,k2⟩ | ⟨j,x,k1,k2,k3⟩
     ·rw [k1,k2];rfl
     ·rw [k1,k3];rfl
    ·rw [if_neg h6,decide_eq_false (show ¬ (r.Np.length:Int)=p.Nb.length by omega)];rfl
  ·rfl
theorem QMs {p:Nf} (h:PlantS p):Qlc p=some (Z0 p):=by
  have h3:=h.sw;have h4:=h.ro;have l0:loop (Qla p) 0=some (match Xx (Zo p) p.Nb.length with | some i=>.inl (Nq.mk 3 i,Zo p i) | none=>.inr ()) :=
    JQ (fun k=>(k:Int)) p.Nb.length (Zo p) (fun i e=>(Nq.mk 3 i,e)) () (fun k hk _=>by
      unfold Qla;rw [XK hk,cond_true,QMz h k hk,Qp,XD k (by omega)];by_cases h1:Zo p k=0
      · rw [if_pos h1,decide_eq_true h1];rfl
      · rw [if_neg h1,decide_eq_false h1];rfl) (fun _=>by
      unfold Qla;rw [XM];rfl)
  have l1:loop (Qlb p) 0=some (match Xx (Zn p) p.Nj.length with | some i=>.inl (Nq.mk 4 i,Zn p i) | none=>.inr ()) :=
    JQ (fun k=>(k:Int)) p.Nj.length (Zn p) (fun i e=>(Nq.mk 4 i,e)) () (fun k hk _=>by
      unfold Qlb;rw [XK hk,cond_true,QMx h k hk,Qp,XD k (by omega)];by_cases h1:Zn p k=0
      · rw [if_pos h1,decide_eq_true h1];rfl
      · rw [if_neg h1,decide_eq_false h1];rfl) (fun _=>by
      unfold Qlb;rw [XM];rfl)
  unfold Qlc Z0;by_cases h1:p.Na.length=0\/p.Nc.length=0
  · rw [if_pos h1, show (decide ((p.Na.length : Int) = 0) || decide ((p.Nc.length : Int) = 0)) = true by
      simp only [Bool.or_eq_true,decide_eq_true_eq];omega]
    rfl
  rw [if_neg h1,decide_eq_false (show ¬ (p.Na.length:Int)=0 by omega),decide_eq_false (show ¬ (p.Nc.length:Int)=0 by omega)];simp only [Bool.or_self,cond_false];by_cases h2:8 < p.Na.length\/3 < p.Nc.length\/4 < p.Nb.length\/10 < p.Nj.length
  · rw [if_pos h2, show (((decide (8 < (p.Na.length : Int)) || decide (3 < (p.Nc.length : Int))) || decide (4 < (p.Nb.length : Int))) || decide (10 < (p.Nj.length : Int))) = true by
      simp only [Bool.or_eq_true,decide_eq_true_eq];omega]
    rfl
  rw [if_neg h2, show (((decide (8 < (p.Na.length : Int)) || decide (3 < (p.Nc.length : Int))) || decide (4 < (p.Nb.length : Int))) || decide (10 < (p.Nj.length : Int))) = false by
      rw [decide_eq_false (by omega),decide_eq_false (by omega),decide_eq_false (by omega),decide_eq_false (by omega)];rfl]
  rw [cond_false,Qxk _ h.se,Qxk _ h.tr,l0,l1];have hz:∀ {f:Nat->Int} {n i:Nat},Xx f n=some i->f i≠0:=fun hf=>(JN hf).2.1
  cases h3:Xx (Y5 p.Na) p.Na.length with
  | some i=>simp [hz h3]
  | none =>
    simp only [Qp,decide_true,Bool.not_true,cond_false];cases h4:Xx (Y5 p.Nc) p.Nc.length with
    | some i=>simp [hz h4]
    | none =>
      simp only [decide_true,Bool.not_true,cond_false];cases h5:Xx (Zo p) p.Nb.length with
      | some i=>rfl
      | none =>
        simp only [Xn];cases h6:Xx (Zn p) p.Nj.length with
        | some i=>rfl
        | none=>rfl
theorem QMw {p:Nf} (h:PlantS p):Qlf p=some (Z0 p).2:=by
 unfold Qlf;rw [QMs h];rfl
/-! ### Copies -/
theorem Qiv (l:List Int) (h:l.length < 1000000):Qbh l=some l:=by
 unfold Qbh;rw [JI (by simp;omega)];rfl
theorem Qts (l:List ByteArray) (h:l.length < 1000000):Qfj l=some l:=by
 unfold Qfj;rw [JI (by simp;omega)];rfl
theorem Qhu {α:Type} (l:List α) (k:Nat) (hk:k < l.length):l.take k++[l[k]]=l.take (k+1):=by
 have:=Qrt l id k hk;simp
theorem QCc {p:Nf} (h:PlantS p):Qei p=some p:=by
 have h1:=h.se;have h2:=h.tr;have h3:=h.sw;have h4:=h.ro;have hl:=Qbr (step:=Qgu p) (o:=p.Nj) (fun k=>((k:Int),p.Nj.take k)) p.Nj.length (fun k hk=>by
  obtain ⟨_,hr,hn⟩:=h.rn _ (List.getElem_mem hk);unfold Qgu;simp only [XK hk,cond_true,Xr hk,Qp];rw [Qiv _ (by omega),Qp,Qiv _ (by omega),Qp,JI (by simp;omega),Qp,XD k (by omega),Qhu _ _ hk]) (by
  unfold Qgu;simp only [XM,List.take_length];rfl)
 have hl2:loop (Qgu p) (0,([]:List Nn))=some p.Nj:=hl;unfold Qei;rw [Qts _ (by omega),Qp,Qts _ (by omega),Qp,JI (by simp;omega),Qp,Qp];simp only [List.nil_append];rw [hl2];rfl
theorem Qtr {x:Ng} (h:StateS x):Qej x=some x:=by
 have h1:=h.sw;have h2:=h.tr;have hl:=Qbr (step:=Qgw x) (o:=x.Nc) (fun k=>((k:Int),x.Nc.take k)) x.Nc.length (fun k hk=>by
  unfold Qgw;simp only [XK hk,cond_true,Xr hk,Qp];rw [Qiv _ (by have:=h.ch _ (List.getElem_mem hk);omega),Qp,JI (by simp;omega),Qp,XD k (by omega)];show some (Sum.inl (_,x.Nc.take k++[x.Nc[k]]))=_;rw [Qhu _ _ hk]) (by
  unfold Qgw;simp only [XM,List.take_length];rfl)
 have hl2:loop (Qgw x) (0,([]:List Nl))=some x.Nc:=hl;unfold Qej;rw [Qiv _ (by omega),Qp,Qp];simp only;rw [hl2];rfl
/-! ### Equal ones -/
/-! ### The Qux -/
theorem QEv (p:Nf):Qdw p=some true/\PlantS p/\(p.Na.length<=4\/8 < p.Na.length)\/Qdw p=some false:=by
 unfold Qdw;cases hb:(((((decide (4 < (p.Na.length:Int))&&decide ((p.Na.length:Int)<=8))||decide (10 < (p.Na.length:Int)))||decide (5 < (p.Nc.length:Int)))||decide (6 < (p.Nb.length:Int)))||decide (12 < (p.Nj.length:Int))) with
 | true=>exact .inr rfl
 | false =>
  rw [cond_false];simp only [Bool.or_eq_false_iff,Bool.and_eq_false_iff,decide_eq_false_iff_not] at hb;have h1:p.Na.length < 1000:=by omega
  have h2:p.Nc.length < 1000:=by omega
  have h3:p.Nb.length < 1000:=by omega
  have h4:p.Nj.length < 1000:=by omega
  have l0:loop (Qjl p) 0=some (Ye (fun s:ByteArray=>decide (20 < (s.size:Int))) (fun _ _=>false) 0 p.Na):=Y0 p.Na _ _ (fun k hk=>by
   unfold Qjl;rw [XK hk,cond_true,Xr hk,Qp,XD k (by omega)]) (by unfold Qjl;rw [XM];rfl)
  have l1:loop (Qjm p) 0=some (Ye (fun s:ByteArray=>decide (20 < (s.size:Int))) (fun _ _=>false) 0 p.Nc):=Y0 p.Nc _ _ (fun k hk=>by
   unfold Qjm;rw [XK hk,cond_true,Xr hk,Qp,XD k (by omega)]) (by unfold Qjm;rw [XM];rfl)
  have l2:loop (Qjn p) 0=some (Ye (fun s:Ns=>decide (20 < (s.Name.size:Int))) (fun _ _=>false) 0 p.Nb):=Y0 p.Nb _ _ (fun k hk=>by
   unfold Qjn;rw [XK hk,cond_true,Xr hk,Qp,XD k (by omega)]) (by unfold Qjn;rw [XM];rfl)
  have l3:loop (Qjo p) 0=some (Ye (fun r:Nn=>decide (20 < (r.Name.size:Int))||(decide (10 < (r.Na.length:Int))||decide (6 < (r.Np.length:Int)))) (fun _ _=>false) 0 p.Nj):=Y0 p.Nj _ _ (fun k hk=>by
   unfold Qjo;simp only [XK hk,cond_true,Xr hk,Qp,XD k (show k < 4611686018427387904 by omega)];cases decide (20 < (p.Nj[k].Name.size:Int))<;>cases decide (10 < (p.Nj[k].Na.length:Int))<;>cases decide (6 < (p.Nj[k].Np.length:Int))<;>rfl) (by unfold Qjo;rw [XM];rfl)
  rw [l0,l1,l2,l3];simp only [Qp];rcases ZC (p:=fun s:ByteArray=>decide (20 < (s.size:Int))) (res:=fun _ _=>false) p.Na 0 with ⟨k1,k2⟩ | ⟨j,x,k1,k2,k3⟩
  ·rw [k1];rcases ZC (p:=fun s:ByteArray=>decide (20 < (s.size:Int))) (res:=fun _ _=>false) p.Nc 0 with ⟨m1,m2⟩ | ⟨j,x,m1,m2,m3⟩
   ·rw [m1];rcases ZC (p:=fun s:Ns=>decide (20 < (s.Name.size:Int))) (res:=fun _ _=>false) p.Nb 0 with ⟨n1,n2⟩ | ⟨j,x,n1,n2,n3⟩
    ·rw [n1];rcases ZC (p:=fun r:Nn=>decide (20 < (r.Name.size:Int))||(decide (10 < (r.Na.length:Int))||decide (6 < (r.Np.length:Int)))) (res:=fun _ _=>false) p.Nj 0 with ⟨o1,o2⟩ | ⟨j,x,o1,o2,o3⟩
     ·rw [o1];rw [List.any_eq_false] at k2 m2 n2 o2;refine .inl ⟨rfl,⟨h1,h2,h3,h4,fun s hs=>?_,fun s hs=>?_,fun s hs=>?_,fun r hr=>?_⟩,by omega⟩
      ·have:=k2 s hs;simp at this;omega
      ·have:=m2 s hs;simp at this;omega
      ·have:=n2 s hs;simp at this;omega
      ·have:=o2 r hr;simp at this;omega
     ·rw [o1];exact .inr rfl
    ·rw [n1];exact .inr rfl
   ·rw [m1];exact .inr rfl
  ·rw [k1];exact .inr rfl
theorem QEw (x:Ng):Qdx x=some true/\StateS x\/Qdx x=some false:=by
 unfold Qdx;cases hb:(decide (6 < (x.Nb.length:Int))||decide (5 < (x.Nc.length:Int))) with
 | true=>exact .inr rfl
 | false =>
  rw [cond_false];simp only [Bool.or_eq_false_iff,decide_eq_false_iff_not] at hb;have l0:loop (Qjp x) 0=some (Ye (fun t:Nl=>decide (10 < (t.Nd.length:Int))) (fun _ _=>false) 0 x.Nc):=Y0 x.Nc _ _ (fun k hk=>by
   unfold Qjp;rw [XK hk,cond_true,Xr hk,Qp,XD k (by omega)]) (by unfold Qjp;rw [XM];rfl)
  rw [l0,Qp];rcases ZC (p:=fun t:Nl=>decide (10 < (t.Nd.length:Int))) (res:=fun _ _=>false) x.Nc 0 with ⟨k1,k2⟩ | ⟨j,y,k1,k2,k3⟩
  ·rw [k1];rw [List.any_eq_false] at k2;refine .inl ⟨rfl,by omega,by omega,fun t ht=>?_⟩;have:=k2 t ht;simp at this;omega
  ·rw [k1];exact .inr rfl
end Go.Gw

end
