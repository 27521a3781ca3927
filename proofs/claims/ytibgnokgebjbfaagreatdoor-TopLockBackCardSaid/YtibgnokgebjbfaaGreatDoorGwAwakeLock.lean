/- Laws of the walk. Condition: each theorem says its own. -/
import Derived.Test.YtibgnokgebjbfaaGreatDoorGwTopA
import Derived.Test.YtibgnokgebjbfaaGreatDoorGwLib21
set_option linter.unusedVariables false
set_option linter.unusedSimpArgs false
set_option linter.unusedSectionVars false
section
set_option maxRecDepth 100000
namespace Go.Gw
open Go
end Go.Gw

end
section
set_option linter.unusedSectionVars false
namespace Go.Gw
section
variable {α β γ σ ρ:Type}
def X7 (p:α->Bool) (res:Nat->α->ρ):Nat->List α->ρ⊕Unit
 | _,[]=>.inr ()
 | k,x::xs=>if p x then .inl (res k x) else X7 p res (k+1) xs
theorem Y2 {step:Int->Option (Int⊕(ρ⊕Unit))} (xs:List α) (p:α->Bool) (res:Nat->α->ρ)
  (hs:∀ k (hk:k < xs.length),step (k:Int)=(bif p xs[k] then some (.inr (.inl (res k xs[k]))) else some (.inl ((k+1:Nat):Int))))
  (he:step (xs.length:Int)=some (.inr (.inr ()))):loop step 0=some (X7 p res 0 xs):=by
 have key:∀ j k,j+k=xs.length->loop step (k:Int)=some (X7 p res k (xs.drop k)):=by
  intro j
  induction j with
  | zero =>
   intro k hk;obtain rfl:k=xs.length:=by omega
   rw [List.drop_length];exact Qam he
  | succ j ih =>
   intro k hk;have hlt:k < xs.length:=by omega
   rw [List.drop_eq_getElem_cons hlt];have:=hs k hlt;cases hp:p xs[k] with
   | true=>rw [hp] at this;simp only [X7,hp,if_true];exact Qam this
   | false=>rw [hp] at this;simp only [X7,hp];rw [J6 this];exact ih (k+1) (by omega)
 have:=key xs.length 0 (by omega);simpa using this

def J4 (f:Nat->γ->α->γ):Nat->γ->List α->γ
 | _,a,[]=>a
 | k,a,x::xs=>J4 f (k+1) (f k a x) xs
theorem Qvy {step:σ->Option (σ⊕β)} (xs:List α) (f:Nat->γ->α->γ) (S:γ->Nat->σ) (o:γ->β) (Inv:γ->Nat->Prop) (a0:γ) (h0:Inv a0 0)
  (hs:∀ k (hk:k < xs.length) a,Inv a k->step (S a k)=some (.inl (S (f k a xs[k]) (k+1)))/\Inv (f k a xs[k]) (k+1))
  (he:∀ a,Inv a xs.length->step (S a xs.length)=some (.inr (o a))):loop step (S a0 0)=some (o (J4 f 0 a0 xs))/\Inv (J4 f 0 a0 xs) xs.length:=by
 have key:∀ j k a,j+k=xs.length->Inv a k->loop step (S a k)=some (o (J4 f k a (xs.drop k)))/\Inv (J4 f k a (xs.drop k)) xs.length:=by
  intro j
  induction j with
  | zero =>
   intro k a hk hI;obtain rfl:k=xs.length:=by omega
   rw [List.drop_length];exact ⟨Qam (he a hI),hI⟩
  | succ j ih =>
   intro k a hk hI;have hlt:k < xs.length:=by omega
   rw [List.drop_eq_getElem_cons hlt];have:=hs k hlt a hI;rw [J6 this.1];exact ih (k+1) _ (by omega) this.2
 have:=key xs.length 0 a0 (by omega) h0;simpa using this

theorem XE (k:Nat) (h:k < 4611686018427387904):w64 ((k:Int)+1)=((k+1:Nat):Int):=by rw [Zg (by omega)];omega
theorem XL {k n:Nat} (h:k < n):decide ((k:Int) < (n:Int))=true:=by simp;omega
theorem XM (n:Nat):decide ((n:Int) < (n:Int))=false:=by simp
end
end Go.Gw

end
section
set_option maxRecDepth 4096
namespace Go.Gw
open Go
def Zx:List Int->Int
 | []=>0
 | x::xs=>if x=0 then Zx xs else x
theorem Zw (l:List Int) (hl:l.length < 1073741824):Zy l=some (Zx l):=by
  unfold Zy;rw [Y2 l (fun x=>!decide (x=0)) (fun _ x=>x)]
  · have key : ∀ (l : List Int) k, (Xj (X7 (fun x => !decide (x = 0)) (fun _ x => x) k l) fun (_ : Unit) => some 0) = some (Zx l) := by
      intro l
      induction l with
      | nil=>intro k;rfl
      | cons x xs ih =>
        intro k;by_cases h:x=0
        · simp [X7,Zx,h];exact ih _
        · simp [X7,Zx,h,Xj]
    simpa using key l 0
  · intro k hk;unfold Qpl;rw [XL hk,Xt hk,XE k (by omega)];rfl
  · unfold Qpl;rw [XM];rfl
theorem Yy (b:Bool) (e:Int):X9 b e=some (bif b then 0 else e):=by cases b<;>rfl
theorem Qsq (n lo hi:Int):Je n lo hi=some (decide (lo<=n)&&decide (n<=hi)):=rfl
theorem QFt (n:Int):Qke n=some (decide (0<=n)&&decide (n<=6)):=rfl
end Go.Gw

end
section
set_option maxRecDepth 4096
namespace Go.Gw
open Go
def Qai (n:Int):Bool:=decide (0<=n)&&decide (n<=250)
end Go.Gw

end
section
set_option maxRecDepth 4096
namespace Go.Gw
open Go
attribute [local irreducible] loop
end Go.Gw

end
section
set_option maxRecDepth 4096
namespace Go.Gw
open Go
attribute [local irreducible] loop
end Go.Gw

end
section
set_option maxRecDepth 4096
namespace Go.Gw
open Go
attribute [local irreducible] loop
theorem Qfe {α:Type} (p:α->Bool):∀ (l:List α) (k:Nat),(Xj (β:=Int) (X7 p (fun k _=>(k:Int)) k l) fun (_:Unit)=>some (-1))=some (match X7 p (fun k _=>(k:Int)) k l with | .inl i=>i | .inr _=>-1)
 | l,k=>by cases X7 p (fun k _=>(k:Int)) k l<;>rfl
theorem Qhy {α:Type} (p:α->Bool):∀ (l:List α) (k:Nat),decide (0<=(match X7 p (fun k _=>(k:Int)) k l with | .inl i=>i | .inr _=>(-1:Int)))=l.any p
 | [],k=>by simp [X7]
 | x::xs,k=>by
  by_cases h:p x=true
  ·simp [X7,h]
  ·simp only [X7,h,List.any_cons];have:=Qhy p xs (k+1);simpa [h] using this
theorem ZL {α ρ:Type} {p:α->Bool} {res:Nat->α->ρ}:∀ (l:List α) (k:Nat),(X7 p res k l=.inr ()/\l.any p=false)\/∃ j x,X7 p res k l=.inl (res j x)/\p x=true/\l.any p=true
 | [],k=>.inl ⟨rfl,rfl⟩
 | x::xs,k=>by
  by_cases h:p x=true
  ·exact .inr ⟨k,x,by simp [X7,h],h,by simp [h]⟩
  ·rcases ZL xs (k+1) (p:=p) (res:=res) with ⟨h1,h2⟩ | ⟨j,y,h1,h2,h3⟩
   ·exact .inl ⟨by simp [X7,h,h1],by simp [h,h2]⟩
   ·exact .inr ⟨j,y,by simp [X7,h,h1],h2,by simp [h3]⟩
def Xy (f:Nat->Int) (n:Nat):Option Nat:=(List.range n).find? fun i=>decide (f i≠0)
theorem Qji (f:Nat->Int) (n:Nat):(Xy f n=none/\∀ j,j < n->f j=0)\/∃ i,Xy f n=some i/\i < n/\f i≠0/\∀ j,j < i->f j=0:=by
 cases h:Xy f n with
 | none =>
  refine .inl ⟨rfl,fun j hj=>?_⟩;have:=List.find?_eq_none.1 h j (List.mem_range.2 hj);simpa using this
 | some i =>
  right;obtain ⟨h1,h2,h3⟩:=List.find?_range_eq_some.1 h;exact ⟨i,rfl,List.mem_range.1 h2,by simpa using h1,fun j hj=>by have:=h3 j hj;simpa using this⟩
theorem JW {σ ρ μ:Type} {step:σ->Option (σ⊕(ρ⊕μ))} (S:Nat->σ) (n:Nat) (f:Nat->Int) (res:Nat->Int->ρ) (o:μ)
  (hs:∀ k,k < n->(∀ j,j < k->f j=0)->step (S k)=if f k=0 then some (.inl (S (k+1))) else some (.inr (.inl (res k (f k))))) (he:(∀ j,j < n->f j=0)->step (S n)=some (.inr (.inr o))) :
  loop step (S 0)=some (match Xy f n with | some i=>.inl (res i (f i)) | none=>.inr o):=by
 rcases Qji f n with ⟨h1,h2⟩ | ⟨i,h1,h2,h3,h4⟩
 ·rw [h1];exact Qep S n (fun k hk=>by rw [hs k hk fun j hj=>h2 j (by omega),if_pos (h2 k hk)]) (he h2)
 ·rw [h1];exact Qep S i (fun k hk=>by rw [hs k (by omega) fun j hj=>h4 j (by omega),if_pos (h4 k hk)]) (by rw [hs i h2 h4,if_neg h3])
/-! ### Names -/
def Qfu (q:Int×Nat):Bool:=(!(((decide (97<=q.1))&&(decide (q.1<=122)))||((decide (65<=q.1))&&(decide (q.1<=90)))))&&((decide ((q.2:Int)=0))||((!decide (q.1=45))&&((decide (q.1 < 48))||(decide (57 < q.1)))))
def bi (s:ByteArray):List Int:=bl s
theorem Qiy (s:ByteArray):(bi s).length=s.size:=J0 s
theorem Qvd {s:ByteArray} {k:Nat} (h:k < (bi s).length):idx (α:=Int) (bl s) (k:Int)=some (bi s)[k]:=Xt (xs:=bi s) h
def J7 (s:ByteArray):Bool:=decide (1<=s.size)&&(decide (s.size<=12)&&!((bi s).zipIdx.any Qfu))
theorem Qyn (s:ByteArray):s=ByteArray.mk #[]↔s.size=0:=by
 constructor
 ·intro h;subst h;rfl
 ·intro h;cases s with
  | mk d =>
   congr 1;exact Array.eq_empty_of_size_eq_zero h
theorem Qno (s:ByteArray):Qdy s=some (J7 s):=by
  unfold Qdy J7;have hlen:(bi s).zipIdx.length=s.size:=by rw [List.length_zipIdx,Qiy]
  by_cases h:1<=s.size/\s.size<=12
  · have : (decide ((s.size : Int) < 1) || decide (12 < (s.size : Int))) = false := by
      rw [decide_eq_false (by omega),decide_eq_false (by omega)];rfl
    rw [this,cond_false,Y2 (bi s).zipIdx Qfu (fun _ _=>false),Qq]
    · rcases ZL (p:=Qfu) (res:=fun _ _=>false) (bi s).zipIdx 0 with ⟨k1,k2⟩ | ⟨j,x,k1,k2,k3⟩
      · rw [k1,k2];simp [h,Xj]
      · rw [k1,k3];simp [Xj]
    · intro k hk;rw [hlen] at hk;unfold Qnu;rw [XL hk,cond_true,Qvd (show k < (bi s).length by rw [Qiy];exact hk),Qq,XE k (by omega)];simp only [List.getElem_zipIdx,Nat.zero_add];rfl
    · rw [hlen];unfold Qnu;rw [XM];rfl
  · have : (decide ((s.size : Int) < 1) || decide (12 < (s.size : Int))) = true := by
      by_cases h1:s.size < 1
      · rw [decide_eq_true (by omega)];rfl
      · rw [decide_eq_true (p:=12 < (s.size:Int)) (by omega)];simp
    rw [this,cond_true];congr 1;by_cases h1:1<=s.size
    · rw [decide_eq_false (p:=s.size<=12) (by omega)];simp
    · rw [decide_eq_false h1];rfl
theorem Qow (s:ByteArray) (hs:s.size<=1000):Qek s=some (J7 s):=by
 unfold Qek J7;have hlen:(bi s).zipIdx.length=s.size:=by rw [List.length_zipIdx,Qiy]
 have ht:tob s=some (bl s):=by unfold tob;rw [if_pos (by omega)]
 rw [ht,Qq,Y2 (bi s).zipIdx Qfu (fun _ _=>false),Qq]
 ·rcases ZL (p:=Qfu) (res:=fun _ _=>false) (bi s).zipIdx 0 with ⟨k1,k2⟩ | ⟨j,x,k1,k2,k3⟩
  ·rw [k1,k2];simp only [Xj,Bool.not_false,Bool.and_true,Option.some.injEq];by_cases h0:s.size=0
   ·rw [decide_eq_true ((Qyn s).2 h0),decide_eq_false (show ¬ 1<=s.size by omega)];rfl
   ·rw [decide_eq_false (fun e=>h0 ((Qyn s).1 e)),decide_eq_true (show 1<=s.size by omega)];simp only [Bool.not_false,Bool.true_and];by_cases h1:s.size<=12
    ·rw [decide_eq_true h1,decide_eq_true (by omega)]
    ·rw [decide_eq_false h1,decide_eq_false (by omega)]
  ·rw [k1,k3];simp [Xj]
 ·intro k hk;rw [hlen] at hk;have hk2:k < (bl s).length:=by rw [J0];exact hk
  unfold Qpn;rw [XL hk2,cond_true,Qvd (show k < (bi s).length by rw [Qiy];exact hk),Qq,XE k (by omega)];simp only [List.getElem_zipIdx,Nat.zero_add];rfl
 ·rw [hlen,show (s.size:Int)=((bl s).length:Int) by rw [J0]];unfold Qpn;rw [XM];rfl
theorem Qba (n lo hi:Int):ZD n lo hi=some (decide (lo<=n)&&decide (n<=hi)):=rfl
theorem QFa (a b:Int):Zx [a,b]=if a≠0 then a else b:=by
 unfold Zx Zx Zx;by_cases h:a=0<;>by_cases h2:b=0<;>simp [h,h2]
theorem Qee (a b c:Int):Zx [a,b,c]=if a≠0 then a else if b≠0 then b else c:=by
 unfold Zx Zx Zx Zx;by_cases h:a=0<;>by_cases h2:b=0<;>by_cases h3:c=0<;>simp [h,h2,h3]
theorem Qoj {α:Type} [DecidableEq α]:∀ (a b:List α) (hl:a.length=b.length) (k:Nat),(Xj (X7 (fun (x:α×α)=>!decide (x.1=x.2)) (fun _ _=>false) k (a.zip b)) fun (_:Unit)=>some true)=some (decide (a=b))
 | [],[],_,k=>by simp [X7,Xj]
 | [],_::_,hl,_=>by simp at hl
 | _::_,[],hl,_=>by simp at hl
 | x::a,y::b,hl,k=>by
  by_cases hxy:x=y
  ·subst hxy;have:=Qoj a b (by simpa using hl) (k+1);simp only [List.zip_cons_cons,X7];simpa using this
  ·simp [X7,hxy,Xj]
theorem Qnb {α:Type} {a b:List α} (hl:a.length=b.length):(a.zip b).length=a.length:=by simp [hl]
theorem ZG {α:Type} (l:List α) (f:α->Int) (k:Nat) (hk:k < l.length):(l[k]?.map f).getD 0=f l[k]:=by rw [List.getElem?_eq_getElem hk];rfl
theorem Qrz {α β:Type} (l:List α) (f:α->β) (k:Nat) (hk:k < l.length):(l.take k).map f++[f l[k]]=(l.take (k+1)).map f:=by
 rw [List.take_add_one,List.getElem?_eq_getElem hk,List.map_append];rfl
theorem Qnc {α β:Type} {a:List α} {b:List β} (hl:a.length=b.length):(a.zip b).length=a.length:=by simp [hl]
theorem Qcy {α:Type} {xs:List α} {k:Nat} (h:k<=xs.length):cut xs 0 (k:Int)=some (xs.take k):=by
 unfold cut;rw [if_pos (by omega),Int.toNat_natCast];rfl
theorem Qth {α:Type} [DecidableEq α] (l:List α) (v:α):(l.any fun x=>decide (v=x))=decide (v∈l):=by
 rw [Bool.eq_iff_iff];simp
theorem Qti {α:Type} [DecidableEq α] (l:List α) (v:α):(l.any fun x=>decide (x=v))=decide (v∈l):=by
 rw [Bool.eq_iff_iff];simp
def Qal {α:Type} (p:α->Bool) (l:List α):Int:=match X7 p (fun k _=>(k:Int)) 0 l with | .inl i=>i | .inr _=>(-1:Int)
theorem Qov {α:Type} (p:α->Bool) (l:List α):decide (0<=Qal p l)=l.any p:=Qhy p l 0
theorem Qvj (l:List Int) (v:Int) (hl:l.length < 1000000):Qhx l v=some (Qal (fun x=>decide (v=x)) l):=by
 unfold Qhx Qal;rw [Y2 l (fun x=>decide (v=x)) (fun k _=>(k:Int)),Qq,Qfe]
 ·intro k hk;unfold Qrt;rw [XL hk,Xt hk,XE k (by omega)];rfl
 ·unfold Qrt;rw [XM];rfl
theorem Qdz (l:List Int) (v:Int) (hl:l.length < 1000000):Qar l v=some (decide (v∈l)):=by
 unfold Qar;rw [Qvj l v hl,Qq,Qov,Qth]
end Go.Gw

end
section
set_option maxRecDepth 4096
namespace Go.Gw
open Go
attribute [local irreducible] loop
def Zr (s:ByteArray) (others:List ByteArray):Int:=bif J7 s then (bif YH others s then 5 else 0) else 4
def Zd (l:List ByteArray) (k:Nat):Int:=(l[k]?.map fun s=>Zr s (l.take k)).getD 0
def Yo (p:Ng) (n:Int):Bool:=decide (0<=n)&&decide (n<=(p.Na.length:Int) - 1)
def swX (p:Ng) (k:Nat) (s:Nt):Int:=bif Yo p s.Ni then (bif (p.Nc.take k).any (fun o=>decide (o.Ni=s.Ni)) then 26 else 0) else 6
def swE (p:Ng) (k:Nat) (s:Nt):Int:=if Zr s.Name ((p.Nc.take k).map (·.Name))=0 then swX p k s else Zr s.Name ((p.Nc.take k).map (·.Name))
def Zt (p:Ng) (k:Nat):Int:=(p.Nc[k]?.map (swE p k)).getD 0
def rsE (p:Ng) (r:Nq) (k:Nat) (s:Int):Int:=bif Yo p s then (bif decide (s∈r.Na.take k) then 26 else 0) else 6
def Ji (p:Ng) (r:Nq) (k:Nat):Int:=(r.Na[k]?.map (rsE p r k)).getD 0
def J8 (r:Nq) (q:Int×Nt):Bool:=bif decide (q.2.Ni∈r.Na) then !(decide (q.1=0)||decide (q.1=1)) else !decide (q.1=-1)
def rtX (p:Ng) (r:Nq):Int :=
 if r.Na.length < 2 then 10 else if p.Na.length < r.Na.length then 8 else
 match Xy (Ji p r) r.Na.length with
 | some i=>Ji p r i
 | none=>if r.Nr.length=p.Nc.length then (bif (r.Nr.zip p.Nc).any (J8 r) then 2 else 0) else 10
def rtE (p:Ng) (k:Nat) (r:Nq):Int:=if Zr r.Name ((p.Nj.take k).map (·.Name))=0 then rtX p r else Zr r.Name ((p.Nj.take k).map (·.Name))
def Zs (p:Ng) (k:Nat):Int:=(p.Nj[k]?.map (rtE p k)).getD 0
def ZJ (p:Ng):Np×Int :=
 if p.Na.length=0\/p.Nb.length=0 then (Np.mk 0 0,10) else if 8 < p.Na.length\/3 < p.Nb.length\/4 < p.Nc.length\/10 < p.Nj.length then (Np.mk 0 0,8) else
 match Xy (Zd p.Na) p.Na.length with
 | some i=>(Np.mk 1 i,Zd p.Na i)
 | none=>match Xy (Zd p.Nb) p.Nb.length with
  | some i=>(Np.mk 2 i,Zd p.Nb i)
  | none=>match Xy (Zt p) p.Nc.length with
   | some i=>(Np.mk 3 i,Zt p i)
   | none=>match Xy (Zs p) p.Nj.length with
    | some i=>(Np.mk 4 i,Zs p i)
    | none=>(Np.mk 0 0,0)
structure PlantS (p:Ng):Prop where
 se:p.Na.length < 1000
 tr:p.Nb.length < 1000
 sw:p.Nc.length < 1000
 ro:p.Nj.length < 1000
 sn:∀ s∈p.Na,s.size<=1000
 tn:∀ s∈p.Nb,s.size<=1000
 wn:∀ s∈p.Nc,s.Name.size<=1000
 rn:∀ r∈p.Nj,r.Name.size<=1000/\r.Na.length < 1000/\r.Nr.length < 1000
theorem Qot {α:Type} (l:List α) (f:α->ByteArray) (k:Nat) (hk:k < l.length) (h:YH ((l.take k).map f) (f l[k])=false):ZR ((l.take k).map f) (f l[k])=(l.take (k+1)).map f:=by
 unfold ZR;rw [h,if_neg (by simp),Qrz l f k hk]
theorem Qqb (s:ByteArray) (others:List ByteArray):Zx [bif J7 s then 0 else 4,bif !(YH others s) then 0 else 5]=Zr s others:=by
 unfold Zr;cases J7 s<;>cases YH others s<;>rfl
theorem Qqc {s:ByteArray} {others:List ByteArray} (h:Zr s others=0):YH others s=false:=by
 unfold Zr at h;cases h1:YH others s with
 | false=>rfl
 | true=>rw [h1] at h;cases h2:J7 s<;>rw [h2] at h<;>cases h
theorem QBy {n m:Int} (h:n≠m):decide (n=m)=false:=decide_eq_false h
theorem Qwd (l:List ByteArray) (mark:Int) (hl:l.length < 1000) (hn:∀ s∈l,s.size<=1000):Qgw mark l=some (match Xy (Zd l) l.length with | some i=>(Np.mk mark i,Zd l i) | none=>(Np.mk 0 0,0)):=by
 unfold Qgw;have key:loop (Qgv l mark) (0,[])=some (match Xy (Zd l) l.length with | some i=>.inl (Np.mk mark i,Zd l i) | none=>.inr ()):=by
  refine JW (step:=Qgv l mark) (fun k=>((k:Int),(l.take k).map id)) l.length (Zd l) (fun i e=>(Np.mk mark i,e)) () (fun k hk _=>?_) (fun _=>?_)
  ·have hs:Zd l k=Zr l[k] (l.take k):=ZG _ _ _ hk;have hi:=fun h=>Qot l id k hk h
   simp only [List.map_id,id_eq] at hi ⊢;rw [hs];unfold Qgv;simp only [XL hk,cond_true,Xt hk,Qq];rw [show Qpp l[k]=some l[k] from rfl,Qq,Qow _ (hn _ (List.getElem_mem hk)),Qq];simp only [Yy,Qq];rw [Zw _ (by simp),Qq,Qqb];by_cases h:Zr l[k] (l.take k)=0
   ·rw [if_pos h,h,hi (Qqc h),XE k (by omega)];rfl
   ·rw [if_neg h,QBy h];rfl
  ·unfold Qgv;simp only [XM];rfl
 rw [key,Qq];cases Xy (Zd l) l.length<;>rfl
theorem QBo (l:List Nt) (s:Nt) (hl:l.length < 1000):Qmf l s=some (l.any fun o=>decide (o.Ni=s.Ni)):=by
 unfold Qmf Qrn;rw [Y2 l (fun o=>decide (o.Ni=s.Ni)) (fun k _=>(k:Int)),Qq,Qfe,Qq,Qhy]
 ·intro k hk;unfold Qrm;rw [XL hk,Xt hk,XE k (by omega)];rfl
 ·unfold Qrm;rw [XM];rfl
theorem Qyi (p:Ng) (hp:p.Na.length < 1000) (n:Int):Je n 0 (w64 ((p.Na.length:Int) - 1))=some (Yo p n):=by
 rw [Qsq,Zg (by omega)];rfl
theorem QQa {p:Ng} (h:PlantS p) (k:Nat) (hk:k < p.Nc.length):Qkr p k=some (swX p k p.Nc[k]):=by
 have h1:=h.sw;unfold Qkr swX;rw [Xt hk,Qq,Qcy (by omega),Qq,QBo _ _ (by simp;omega),Qq,Qyi p h.se,Qq,Yy,Qq,Yy,Qq,Zw _ (by simp),Qq];cases Yo p p.Nc[k].Ni<;>cases (p.Nc.take k).any (fun o=>decide (o.Ni=p.Nc[k].Ni))<;>rfl
theorem QQb {p:Ng} (h:PlantS p):Qkm 3 p.Nc p=some (match Xy (Zt p) p.Nc.length with | some i=>(Np.mk 3 i,Zt p i) | none=>(Np.mk 0 0,0)):=by
 have hl:=h.sw;unfold Qkm;have key:loop (Qgu p p.Nc 3) (0,[])=some (match Xy (Zt p) p.Nc.length with | some i=>.inl (Np.mk 3 i,Zt p i) | none=>.inr ()):=by
  refine JW (step:=Qgu p p.Nc 3) (fun k=>((k:Int),(p.Nc.take k).map (·.Name))) p.Nc.length (Zt p) (fun i e=>(Np.mk 3 i,e)) () (fun k hk _=>?_) (fun _=>?_)
  ·have hs:Zt p k=swE p k p.Nc[k]:=ZG _ _ _ hk;have hi:=fun h=>Qot p.Nc (·.Name) k hk h
   rw [hs];unfold Qgu swE;simp only [XL hk,cond_true,Xt hk,Qq];rw [show Qpd p.Nc[k]=some p.Nc[k].Name from rfl,Qq,Qow _ (h.wn _ (List.getElem_mem hk)),Qq];simp only [Yy,Qq];rw [Zw _ (by simp),Qq,Qqb,show Qka (k:Int) p=some (swX p k p.Nc[k]) by unfold Qka;rw [QQa h k hk];rfl];by_cases h1:Zr p.Nc[k].Name ((p.Nc.take k).map (·.Name))=0
   ·simp only [h1,hi (Qqc h1),if_true,decide_true,Bool.true_and,cond_true,Qq,XE k (show k < 4611686018427387904 by omega)];by_cases h2:swX p k p.Nc[k]=0
    ·simp [h2]
    ·simp [h2]
   ·simp only [h1,if_false,decide_false,Bool.false_and,cond_false,Qq,Bool.not_false,cond_true]
  ·unfold Qgu;simp only [XM];rfl
 rw [key,Qq];cases Xy (Zt p) p.Nc.length<;>rfl
theorem QNi {p:Ng} (h:PlantS p) (r:Nq) (hr:r.Na.length < 1000):loop (Qko r p) 0=some (match Xy (Ji p r) r.Na.length with | some i=>.inl (Ji p r i) | none=>.inr ()) :=
 JW (fun k=>(k:Int)) r.Na.length (Ji p r) (fun _ e=>e) () (fun k hk _=>by
  have hs:Ji p r k=rsE p r k r.Na[k]:=ZG _ _ _ hk;rw [hs];unfold Qko rsE;rw [XL hk,cond_true,Xt hk,Qq,Qcy (by omega),Qq,Qyi p h.se,Qq,Yy,Qq,Qdz _ _ (by simp;omega),Qq,Yy,Qq,Zw _ (by simp),Qq,XE k (by omega)];cases Yo p r.Na[k]<;>cases decide (r.Na[k]∈r.Na.take k)<;>rfl) (fun _=>by
  unfold Qko;rw [XM];rfl)
theorem QNh {p:Ng} (r:Nq) (hr:r.Na.length < 1000) (hn:r.Nr.length < 1000) (he:r.Nr.length=p.Nc.length):loop (Qkp r p) 0=some (X7 (J8 r) (fun _ _=>(2:Int)) 0 (r.Nr.zip p.Nc)) :=
 Y2 (r.Nr.zip p.Nc) _ _ (fun k hk=>by
  rw [Qnc he] at hk;unfold Qkp;rw [XL hk,cond_true,Xt hk,Qq,Xt (show k < p.Nc.length by omega),Qq,Qdz _ _ (by omega),Qq,XE k (by omega)];simp only [List.getElem_zip,J8];rw [show Qel r.Nr[k]=some (decide (r.Nr[k]=0)||decide (r.Nr[k]=1)) from rfl];cases decide (p.Nc[k].Ni∈r.Na)<;>rfl) (by
  rw [Qnc he];unfold Qkp;rw [XM];rfl)
theorem QNl {p:Ng} (h:PlantS p) (k:Nat) (hk:k < p.Nj.length):Qkq p k=some (rtX p p.Nj[k]):=by
 obtain ⟨_,hr,hn⟩:=h.rn _ (List.getElem_mem hk);have h1:=h.se;have h2:=h.sw;unfold Qkq rtX;rw [Xt hk,Qq,Yy,Qq,Yy,Qq,Zw _ (by simp),Qq];generalize p.Nj[k]=r at hr hn ⊢;by_cases h3:r.Na.length < 2
 ·rw [if_pos h3,decide_eq_false (show ¬ (2<=(r.Na.length:Int)) by omega)];rfl
 rw [if_neg h3,decide_eq_true (show 2<=(r.Na.length:Int) by omega)];by_cases h4:p.Na.length < r.Na.length
 ·rw [if_pos h4,decide_eq_false (show ¬ ((r.Na.length:Int)<=p.Na.length) by omega)];rfl
 rw [if_neg h4,decide_eq_true (show (r.Na.length:Int)<=p.Na.length by omega),QNi h r hr];simp only [Zx,cond_true,if_true,decide_true,Bool.not_true,cond_false,Qq];cases Xy (Ji p r) r.Na.length with
 | some i=>rfl
 | none =>
  simp only [Xj];by_cases h5:r.Nr.length=p.Nc.length
  ·rw [if_pos h5,decide_eq_true (by omega),Bool.not_true,cond_false,QNh r hr hn h5,Qq];rcases ZL (p:=J8 r) (res:=fun _ _=>(2:Int)) (r.Nr.zip p.Nc) 0 with ⟨k1,k2⟩ | ⟨j,x,k1,k2,k3⟩
   ·rw [k1,k2];rfl
   ·rw [k1,k3];rfl
  ·rw [if_neg h5,decide_eq_false (by omega)];rfl
theorem QNx {p:Ng} (h:PlantS p):Qkl 4 p.Nj p=some (match Xy (Zs p) p.Nj.length with | some i=>(Np.mk 4 i,Zs p i) | none=>(Np.mk 0 0,0)):=by
 have hl:=h.ro;unfold Qkl;have key:loop (Qgt p p.Nj 4) (0,[])=some (match Xy (Zs p) p.Nj.length with | some i=>.inl (Np.mk 4 i,Zs p i) | none=>.inr ()):=by
  refine JW (step:=Qgt p p.Nj 4) (fun k=>((k:Int),(p.Nj.take k).map (·.Name))) p.Nj.length (Zs p) (fun i e=>(Np.mk 4 i,e)) () (fun k hk _=>?_) (fun _=>?_)
  ·have hs:Zs p k=rtE p k p.Nj[k]:=ZG _ _ _ hk;have hi:=fun h=>Qot p.Nj (·.Name) k hk h
   rw [hs];unfold Qgt rtE;simp only [XL hk,cond_true,Xt hk,Qq];rw [show Qpf p.Nj[k]=some p.Nj[k].Name from rfl,Qq,Qow _ (h.rn _ (List.getElem_mem hk)).1,Qq];simp only [Yy,Qq];rw [Zw _ (by simp),Qq,Qqb,show Qkb (k:Int) p=some (rtX p p.Nj[k]) by unfold Qkb;rw [QNl h k hk];rfl];by_cases h1:Zr p.Nj[k].Name ((p.Nj.take k).map (·.Name))=0
   ·simp only [h1,hi (Qqc h1),if_true,decide_true,Bool.true_and,cond_true,Qq,XE k (show k < 4611686018427387904 by omega)];by_cases h2:rtX p p.Nj[k]=0
    ·simp [h2]
    ·simp [h2]
   ·simp only [h1,if_false,decide_false,Bool.false_and,cond_false,Qq,Bool.not_false,cond_true]
  ·unfold Qgt;simp only [XM];rfl
 rw [key,Qq];cases Xy (Zs p) p.Nj.length<;>rfl
theorem QBp {p:Ng} (h:PlantS p):Qkc p=some (ZJ p):=by
  unfold Qkc ZJ;rw [Yy,Qq,Yy,Qq,Zw _ (by simp),Qq];by_cases h1:p.Na.length=0\/p.Nb.length=0
  · rw [if_pos h1, show (decide (0 < (p.Na.length : Int)) && decide (0 < (p.Nb.length : Int))) = false by
      rcases h1 with h1 | h1
      · rw [decide_eq_false (show ¬ (0 < (p.Na.length:Int)) by omega)];rfl
      · rw [decide_eq_false (show ¬ (0 < (p.Nb.length:Int)) by omega),Bool.and_false]]
    rfl
  rw [if_neg h1,decide_eq_true (show 0 < (p.Na.length:Int) by omega),decide_eq_true (show 0 < (p.Nb.length:Int) by omega)];by_cases h2:8 < p.Na.length\/3 < p.Nb.length\/4 < p.Nc.length\/10 < p.Nj.length
  · rw [if_pos h2, show (((decide (8 < (p.Na.length : Int)) || decide (3 < (p.Nb.length : Int))) || decide (4 < (p.Nc.length : Int))) || decide (10 < (p.Nj.length : Int))) = true by
      simp only [Bool.or_eq_true,decide_eq_true_eq];omega]
    rfl
  rw [if_neg h2, show (((decide (8 < (p.Na.length : Int)) || decide (3 < (p.Nb.length : Int))) || decide (4 < (p.Nc.length : Int))) || decide (10 < (p.Nj.length : Int))) = false by
      rw [decide_eq_false (by omega),decide_eq_false (by omega),decide_eq_false (by omega),decide_eq_false (by omega)];rfl]
  unfold Qpb Qpc Qpe Qpg;rw [Qwd _ _ h.se h.sn,Qwd _ _ h.tr h.tn,QQb h,QNx h];have hz:∀ {f:Nat->Int} {n i:Nat},Xy f n=some i->f i≠0:=fun {f n i} hf=>by
    rcases Qji f n with ⟨k1,_⟩ | ⟨j,k1,_,k3,_⟩
    · rw [k1] at hf;cases hf
    · rw [k1] at hf;cases hf;exact k3
  simp only [Bool.true_and,Bool.not_false,cond_true,Zx,if_true,decide_true,Bool.not_true,cond_false,Qq];cases h3:Xy (Zd p.Na) p.Na.length with
  | some i=>simp [hz h3]
  | none =>
    simp only [decide_true,Bool.not_true,cond_false];cases h4:Xy (Zd p.Nb) p.Nb.length with
    | some i=>simp [hz h4]
    | none =>
      simp only [decide_true,Bool.not_true,cond_false];cases h5:Xy (Zt p) p.Nc.length with
      | some i=>simp [hz h5]
      | none =>
        simp only [decide_true,Bool.not_true,cond_false];cases h6:Xy (Zs p) p.Nj.length with
        | some i=>simp [hz h6]
        | none=>simp
theorem QMb {p:Ng} (h:PlantS p):Qde p=some (ZJ p).2:=by
 unfold Qde;rw [QBp h];rfl
end Go.Gw

end
section
set_option maxRecDepth 4096
namespace Go.Gw
open Go
attribute [local irreducible] loop
theorem Quh {α:Type} {xs:List α} (h:1<=xs.length):cut xs 1 (xs.length:Int)=some (xs.drop 1):=by
 unfold cut;rw [if_pos (by omega),Int.toNat_natCast,List.take_length];rfl
structure StateS (x:Nh):Prop where
 sw:x.Nc.length < 1000
 tr:x.Nb.length < 1000
 ch:∀ t∈x.Nb,t.Nd.length < 1000
def XT (x:Nh) (s:Int):Int:=Qal (fun t:Nm=>decide (s∈t.Nd)) x.Nb
def YV (x:Nh) (s:Int):Bool:=x.Nb.any fun t=>decide (s∈t.Nd)
theorem QFl (x:Nh) (s:Int):decide (0<=XT x s)=YV x s:=Qov _ _
theorem QFm (p:Ng) {x:Nh} (h:StateS x) (s:Int):Qkh (some ⟨p,x⟩) s=some (XT x s):=by
 have h1:=h.tr;unfold Qkh Qro XT Qal;rw [Qq];show (Option.bind (Option.bind (loop (Qmi s x.Nb) 0) _) _)=_;rw [Y2 x.Nb (fun t=>decide (s∈t.Nd)) (fun k _=>(k:Int)),Qq,Qfe,Qq]
 ·intro k hk;unfold Qmi Qpr;rw [XL hk,cond_true,Xt hk,Qq,Qdz _ _ (by have:=h.ch _ (List.getElem_mem hk);omega),Qq,Qq,XE k (by omega)]
 ·unfold Qmi;rw [XM];rfl
theorem Qsb (p:Ng) {x:Nh} (h:StateS x) (l:List Int) (hl:l.length < 1000):Qeo (some ⟨p,x⟩) l=some (l.any (YV x)):=by
 unfold Qeo Qrl Qrs;rw [Y2 l (YV x) (fun k _=>(k:Int)),Qq,Qfe,Qq,Qhy]
 ·rfl
 ·intro k hk;unfold Qrr Qpu;rw [XL hk,cond_true,Xt hk,Qq,QFm p h,Qq,Qq,QFl,XE k (by omega)]
 ·unfold Qrr;rw [XM];rfl
def Qdb (secs:List Int) (q:Nt×(Int×Int)):Bool:=decide (q.1.Ni∈secs)&&!decide (q.2.1=q.2.2)
def YG (p:Ng) (sw:List Int) (r:Nq) (secs:List Int):Bool:=!((p.Nc.zip (r.Nr.zip sw)).any (Qdb secs))
theorem QPh (α:Type) (p:α->Bool) (l:List α):(Xj (X7 p (fun _ _=>false) 0 l) fun (_:Unit)=>some true)=some (!(l.any p)):=by
 rcases ZL (p:=p) (res:=fun _ _=>false) l 0 with ⟨k1,k2⟩ | ⟨j,x,k1,k2,k3⟩
 ·rw [k1,k2];rfl
 ·rw [k1,k3];rfl
theorem Qvl {p:Ng} {x:Nh} {r:Nq} {secs:List Int} (h1:r.Nr.length=p.Nc.length) (h2:x.Nc.length=p.Nc.length) (h3:p.Nc.length < 1000) (hs:secs.length < 1000):Qgo (some ⟨p,x⟩) r secs=some (YG p x.Nc r secs):=by
 unfold Qgo YG;have hlen:(p.Nc.zip (r.Nr.zip x.Nc)).length=p.Nc.length:=by simp [h1,h2]
 rw [Qq,Y2 (p.Nc.zip (r.Nr.zip x.Nc)) (Qdb secs) (fun _ _=>false),Qq,QPh]
 ·intro k hk;rw [hlen] at hk;unfold Qpt;rw [XL hk,cond_true,Xt hk,Qq,Qdz _ _ (by omega),Qq,XE k (by omega)];simp only [Qq];rw [Xt (show k < r.Nr.length by omega),Xt (show k < x.Nc.length by omega)];simp only [List.getElem_zip,Qdb,Qq];cases decide (p.Nc[k].Ni∈secs)<;>rfl
 ·rw [hlen];unfold Qpt;rw [XM];rfl
theorem QBr (l:List Nm) (h:l.length < 1000000):Qmd l=some l:=by
 unfold Qmd;rw [JA (by simp;omega)];rfl
theorem Qoc (l:List Int) (h:l.length < 1000000):Qcj l=some l:=by
 unfold Qcj;rw [JA (by simp;omega)];rfl
theorem Qeg {α:Type} {xs:List α} {i:Int} (h0:0<=i) (h:i.toNat < xs.length):idx xs i=some xs[i.toNat]:=by
 unfold idx;rw [if_pos h0,List.getElem?_eq_getElem h]
theorem QIx (p:Ng) (x:Nh) {a:Int} (h0:0<=a) (hk:a.toNat < x.Nb.length) (hl:x.Nb.length < 1000) (c:List Int) (u:Int):Qbf (some ⟨p,x⟩) a c u=some (some ⟨p,⟨x.Nc,x.Nb.set a.toNat ⟨c,u⟩,x.Nf⟩⟩):=by
 unfold Qbf;rw [Qq,QBr _ (by show x.Nb.length < _;omega),Qq];show Option.bind (idx x.Nb a) _=_;rw [Qeg h0 hk,Qq]
theorem QFc (n:Nat) (h:n < 1000000):Qmh (n:Int)=some []:=by
 unfold Qmh;rw [decide_eq_false (show ¬ (n:Int) < 0 by omega)];simp only [cond_false,Qq,Int.natCast_zero,Int.sub_zero];rw [show w64 (0:Int)=0 from rfl,Int.sub_zero,Zg (by omega)];by_cases h0:0 < (n:Int)
 ·rw [decide_eq_true h0,cond_true];unfold mkZ
  first
  | (rw [if_pos (by omega),Qq];unfold cut;rw [if_pos (by simp)];rfl)
  | skip
 ·rw [decide_eq_false h0];rfl
theorem QBv (a b:List Int) (ha:a.length < 1000) (hb:b.length < 1000):Qme [a,b]=some (a++b):=by
 have f0:Qfb [a,b] (0,0)=some (.inl ((a.length:Int),1)):=by
  unfold Qfb;simp only [show decide ((0:Int) < (([a,b]:List (List Int)).length:Int))=true from rfl,cond_true,show idx [a,b] (0:Int)=some a from rfl,Qq,Int.zero_add];rw [Zg (by omega),decide_eq_false (by omega)];rfl
 have f1:Qfb [a,b] ((a.length:Int),1)=some (.inl (((a.length+b.length:Nat):Int),2)):=by
  unfold Qfb;simp only [show decide ((1:Int) < (([a,b]:List (List Int)).length:Int))=true from rfl,cond_true,show idx [a,b] (1:Int)=some b from rfl,Qq];rw [Zg (by omega),decide_eq_false (by omega),show ((a.length:Int)+(b.length:Int))=((a.length+b.length:Nat):Int) by omega];rfl
 have f2:Qfb [a,b] (((a.length+b.length:Nat):Int),2)=some (.inr ((a.length+b.length:Nat):Int)):=rfl;have g0:Qfc [a,b] ([],0)=some (.inl (a,1)):=by
  unfold Qfc;simp only [show decide ((0:Int) < (([a,b]:List (List Int)).length:Int))=true from rfl,cond_true,show idx [a,b] (0:Int)=some a from rfl,Qq];rw [JA (by simp;omega)];rfl
 have g1:Qfc [a,b] (a,1)=some (.inl (a++b,2)):=by
  unfold Qfc;simp only [show decide ((1:Int) < (([a,b]:List (List Int)).length:Int))=true from rfl,cond_true,show idx [a,b] (1:Int)=some b from rfl,Qq];rw [JA (by omega)];rfl
 have g2:Qfc [a,b] (a++b,2)=some (.inr (a++b)):=rfl;unfold Qme;rw [J6 f0,J6 f1,Qam f2,Qq,QFc _ (by omega),Qq,J6 g0,J6 g1,Qam g2,Qq]
/-! ### Events -/
def Z8 (p:Ng) (n:Int):Bool:=decide (0<=n)&&decide (n<=(p.Nb.length:Int) - 1)
def Qck (p:Ng) (n:Int):Bool:=decide (0<=n)&&decide (n<=(p.Nc.length:Int) - 1)
def Qci (p:Ng) (n:Int):Bool:=decide (0<=n)&&decide (n<=(p.Nj.length:Int) - 1)
def YN (n:Int):Bool:=decide (n=0)||decide (n=1)
def Ym (p:Ng) (e:Nl):Int :=
 if ¬ (0<=e.Kind/\e.Kind<=6) then 15 else if e.Kind=2 then (bif Qck p e.A then (bif YN e.B then 0 else 2) else 6) else
 bif Z8 p e.A then (if e.Kind=0 then (bif Yo p e.B then 0 else 6) else if e.Kind=1 then (bif Qci p e.B then 0 else 6) else if e.B=0 then 0 else 3) else 6
theorem Qjz {n:Int} {k:Nat} (hk:k < 1000):Je n 0 (w64 ((k:Int) - 1))=some (decide (0<=n)&&decide (n<=(k:Int) - 1)):=by
 rw [Qsq,Zg (by omega)]
theorem Qyj {p:Ng} (h:PlantS p) (n:Int):Qgy p n=some (bif Yo p n then 0 else 6):=by
 unfold Qgy;rw [Qjz h.se,Qq,Yy];rfl
theorem QRb {p:Ng} (h:PlantS p) (n:Int):Qks p n=some (bif Z8 p n then 0 else 6):=by
 unfold Qks;rw [Qjz h.tr,Qq,Yy];rfl
theorem QDd {p:Ng} (h:PlantS p) (e:Nl):Qgm p e=some (Ym p e):=by
  unfold Qgm Ym;rw [QFt,Qq];by_cases hk:0<=e.Kind/\e.Kind<=6
  · rw [if_neg (by omega),show (decide (0<=e.Kind)&&decide (e.Kind<=6))=true by simp [hk.1,hk.2]];simp only [Bool.not_true,cond_false];by_cases h2:e.Kind=2
    · rw [if_pos h2,decide_eq_true h2,cond_true,Qjz h.sw,Qq,Yy,Qq,show Qel e.B=some (YN e.B) from rfl,Qq,Yy,Qq,Zw _ (by simp),Qq];show some (Zx [bif Qck p e.A then 0 else 6,_])=_;cases Qck p e.A<;>cases YN e.B<;>rfl
    · rw [if_neg h2,decide_eq_false h2,cond_false,Yy,Qq,Qyj h,Qq,Qjz h.ro,Qq,Yy,Qq,QRb h];show (Option.bind (bif decide (e.Kind=0) then some (bif Yo p e.B then 0 else 6) else bif decide (e.Kind=1) then some (bif Qci p e.B then 0 else 6) else some _) _)=_;by_cases h0:e.Kind=0
      · rw [if_pos h0,decide_eq_true h0,cond_true,Qq,Qq,Zw _ (by simp),Qq];cases Z8 p e.A<;>cases Yo p e.B<;>rfl
      · rw [if_neg h0,decide_eq_false h0,cond_false];by_cases h1:e.Kind=1
        · rw [if_pos h1,decide_eq_true h1,cond_true,Qq,Qq,Zw _ (by simp),Qq];cases Z8 p e.A<;>cases Qci p e.B<;>rfl
        · rw [if_neg h1,decide_eq_false h1,cond_false,Qq,Qq,Zw _ (by simp),Qq];by_cases h3:e.B=0
          · rw [if_pos h3,decide_eq_true h3];cases Z8 p e.A<;>rfl
          · rw [if_neg h3,decide_eq_false h3];cases Z8 p e.A<;>rfl
  · rw [if_pos hk, show (decide (0 <= e.Kind) && decide (e.Kind <= 6)) = false by
      rw [Bool.and_eq_false_iff,decide_eq_false_iff_not,decide_eq_false_iff_not];omega]
    rfl
def XC (x:Nh) (e:Nl):Nm:=x.Nb[e.A.toNat]?.getD ⟨[],0⟩
def Qfh (p:Ng) (e:Nl):Nt:=p.Nc[e.A.toNat]?.getD ⟨ByteArray.mk #[],0⟩
def X5 (p:Ng) (e:Nl):Nq:=p.Nj[e.B.toNat]?.getD ⟨ByteArray.mk #[],[],[]⟩
def Yt (p:Ng) (x:Nh) (e:Nl):Int :=
 if e.Kind=2 then (bif YV x (Qfh p e).Ni then 17 else 0) else
 if e.Kind=0 then (if (XC x e).Nd.length=0 then (bif YV x e.B then 17 else 0) else 22) else
 if (XC x e).Nd.length=0 then 22 else
 if e.Kind=1 then (if (X5 p e).Na.head?=(XC x e).Nd.getLast? then (bif ((X5 p e).Na.drop 1).any (YV x) then 17 else bif YG p x.Nc (X5 p e) (X5 p e).Na then 0 else 13) else 23) else
 if e.Kind=4 then (if 1 < (XC x e).Nk then 0 else 12) else
 if e.Kind=3\/e.Kind=5 then (if (XC x e).Nk < (XC x e).Nd.length then 0 else 12) else
 if (XC x e).Nd.length=1 then 0 else 17
def trX (p:Ng) (t:Nm) (e:Nl):Nm :=
 if e.Kind=0 then ⟨[e.B],1⟩ else if e.Kind=1 then ⟨t.Nd++(X5 p e).Na.drop 1,t.Nk⟩ else if e.Kind=3 then ⟨t.Nd,t.Nk+1⟩ else
 if e.Kind=4 then ⟨t.Nd.drop 1,t.Nk - 1⟩ else if e.Kind=5 then ⟨t.Nd.take (t.Nd.length - 1),t.Nk⟩ else ⟨[],0⟩
def XX (p:Ng) (x:Nh) (e:Nl):Nh :=
 if e.Kind=2 then ⟨x.Nc.set e.A.toNat e.B,x.Nb,x.Nf⟩ else ⟨x.Nc,x.Nb.set e.A.toNat (trX p (XC x e) e),x.Nf⟩
end Go.Gw

end
section
set_option maxRecDepth 4096
namespace Go.Gw
open Go
attribute [local irreducible] loop
theorem Qgh {f:Nat->Int} {n:Nat} (h:Xy f n=none):∀ j,j < n->f j=0:=by
 rcases Qji f n with ⟨_,h2⟩ | ⟨i,h1,_⟩
 ·exact h2
 ·rw [h1] at h;cases h
theorem JT {f:Nat->Int} {n i:Nat} (h:Xy f n=some i):i < n/\f i≠0/\∀ j,j < i->f j=0:=by
 rcases Qji f n with ⟨h1,_⟩ | ⟨j,h1,h2,h3,h4⟩
 ·rw [h1] at h;cases h
 ·rw [h1] at h;cases h;exact ⟨h2,h3,h4⟩
theorem QEp {f:Nat->Int} {n:Nat} (h:∀ j,j < n->f j=0):Xy f n=none:=by
 cases hf:Xy f n with
 | none=>rfl
 | some i=>obtain ⟨h1,h2,_⟩:=JT hf;exact absurd (h i h1) h2
theorem Qwy {α:Type} {l:List α} (h:∀ k (hk:k < l.length),l[k]∉l.take k):l.Nodup:=by
 unfold List.Nodup;rw [List.pairwise_iff_getElem];intro i j hi hj hij e;refine h j hj ?_;rw [<-e];exact List.mem_take_iff_getElem.2 ⟨i,by omega,rfl⟩
theorem QLd {α:Type} {l:List α} (h:l.Nodup) {k:Nat} (hk:k < l.length):l[k]∉l.take k:=by
 intro hm;obtain ⟨i,hi,e⟩:=List.mem_take_iff_getElem.1 hm;unfold List.Nodup at h;rw [List.pairwise_iff_getElem] at h;exact h i k (by omega) hk (by omega) e
structure PlantOk (p:Ng):Prop where
 s1:1<=p.Na.length
 s8:p.Na.length<=8
 t1:1<=p.Nb.length
 t3:p.Nb.length<=3
 w4:p.Nc.length<=4
 r10:p.Nj.length<=10
 ws:∀ s∈p.Nc,Yo p s.Ni=true
 r2:∀ r∈p.Nj,2<=r.Na.length
 r8:∀ r∈p.Nj,r.Na.length<=p.Na.length
 rs:∀ r∈p.Nj,∀ s∈r.Na,Yo p s=true
 rd:∀ r∈p.Nj,r.Na.Nodup
 rn:∀ r∈p.Nj,r.Nr.length=p.Nc.length
 rx:∀ r∈p.Nj,(r.Nr.zip p.Nc).any (J8 r)=false
theorem Qex {p:Ng} {r:Nq} (h:rtX p r=0):2<=r.Na.length/\r.Na.length<=p.Na.length/\(∀ s∈r.Na,Yo p s=true)/\r.Na.Nodup/\r.Nr.length=p.Nc.length/\(r.Nr.zip p.Nc).any (J8 r)=false:=by
 unfold rtX at h;by_cases h1:r.Na.length < 2
 ·rw [if_pos h1] at h;cases h
 rw [if_neg h1] at h;by_cases h2:p.Na.length < r.Na.length
 ·rw [if_pos h2] at h;cases h
 rw [if_neg h2] at h;cases hf:Xy (Ji p r) r.Na.length with
 | some i=>rw [hf] at h;exact absurd h (JT hf).2.1
 | none =>
  rw [hf] at h;have hz:∀ k (hk:k < r.Na.length),rsE p r k r.Na[k]=0:=fun k hk=>by
   have:=Qgh hf k hk;rwa [show Ji p r k=rsE p r k r.Na[k] from ZG _ _ _ hk] at this
  have hz2:∀ k (hk:k < r.Na.length),Yo p r.Na[k]=true/\r.Na[k]∉r.Na.take k:=fun k hk=>by
   have:=hz k hk;unfold rsE at this;cases hb:Yo p r.Na[k] with
   | false=>rw [hb] at this;cases this
   | true =>
    rw [hb,cond_true] at this;refine ⟨rfl,fun hm=>?_⟩;rw [decide_eq_true hm] at this;cases this
  have h3:r.Nr.length=p.Nc.length/\(r.Nr.zip p.Nc).any (J8 r)=false:=by
   by_cases h5:r.Nr.length=p.Nc.length
   ·simp only [h5,if_true] at h;refine ⟨h5,?_⟩;cases hb:(r.Nr.zip p.Nc).any (J8 r) with
    | false=>rfl
    | true=>rw [hb] at h;cases h
   ·simp only [h5,if_false] at h;cases h
  refine ⟨by omega,by omega,fun s hs=>?_,Qwy fun k hk=>(hz2 k hk).2,h3.1,h3.2⟩;obtain ⟨k,hk,rfl⟩:=List.getElem_of_mem hs;exact (hz2 k hk).1
theorem Qqt {p:Ng} (h:(ZJ p).2=0):PlantOk p:=by
 unfold ZJ at h;by_cases h1:p.Na.length=0\/p.Nb.length=0
 ·rw [if_pos h1] at h;cases h
 rw [if_neg h1] at h;by_cases h2:8 < p.Na.length\/3 < p.Nb.length\/4 < p.Nc.length\/10 < p.Nj.length
 ·rw [if_pos h2] at h;cases h
 rw [if_neg h2] at h;cases h3:Xy (Zd p.Na) p.Na.length with
 | some i=>rw [h3] at h;exact absurd h (JT h3).2.1
 | none =>
  rw [h3] at h;cases h4:Xy (Zd p.Nb) p.Nb.length with
  | some i=>rw [h4] at h;exact absurd h (JT h4).2.1
  | none =>
   rw [h4] at h;cases h5:Xy (Zt p) p.Nc.length with
   | some i=>rw [h5] at h;exact absurd h (JT h5).2.1
   | none =>
    rw [h5] at h;cases h6:Xy (Zs p) p.Nj.length with
    | some i=>rw [h6] at h;exact absurd h (JT h6).2.1
    | none =>
     have hr:∀ r∈p.Nj,rtX p r=0:=fun r hr=>by
      obtain ⟨k,hk,rfl⟩:=List.getElem_of_mem hr;have:=Qgh h6 k hk;rw [show Zs p k=rtE p k p.Nj[k] from ZG _ _ _ hk] at this;unfold rtE at this;by_cases hn:Zr p.Nj[k].Name ((p.Nj.take k).map (·.Name))=0
      ·rwa [if_pos hn] at this
      ·rw [if_neg hn] at this;exact absurd this hn
     refine ⟨by omega,by omega,by omega,by omega,by omega,by omega,fun s hs=>?_,fun r h=>(Qex (hr r h)).1,fun r h=>(Qex (hr r h)).2.1,fun r h=>(Qex (hr r h)).2.2.1,fun r h=>(Qex (hr r h)).2.2.2.1,fun r h=>(Qex (hr r h)).2.2.2.2.1,fun r h=>(Qex (hr r h)).2.2.2.2.2⟩;obtain ⟨k,hk,rfl⟩:=List.getElem_of_mem hs;have:=Qgh h5 k hk;rw [show Zt p k=swE p k p.Nc[k] from ZG _ _ _ hk] at this;unfold swE at this;by_cases hn:Zr p.Nc[k].Name ((p.Nc.take k).map (·.Name))=0
     ·rw [if_pos hn] at this;unfold swX at this;cases hb:Yo p p.Nc[k].Ni with
      | true=>rfl
      | false=>rw [hb] at this;cases this
     ·rw [if_neg hn] at this;exact absurd this hn
def ZH (r:Nq) (a b:Int):Bool:=(r.Na.zip (r.Na.drop 1)).any fun q=>decide (q.1=a)&&decide (q.2=b)
def JC (p:Ng) (sw:List Int) (a b:Int):Bool:=p.Nj.any fun r=>ZH r a b&&YG p sw r [a,b]
theorem pairB_iff {r:Nq} {a b:Int}:ZH r a b=true↔∃ k,∃ hk:k+1 < r.Na.length,r.Na[k]=a/\r.Na[k+1]=b:=by
 unfold ZH;rw [List.any_eq_true];constructor
 ·rintro ⟨q,hq,h⟩;obtain ⟨k,hk,rfl⟩:=List.getElem_of_mem hq;simp only [List.length_zip,List.length_drop] at hk;simp only [List.getElem_zip,List.getElem_drop,Bool.and_eq_true,decide_eq_true_eq] at h;refine ⟨k,by omega,h.1,?_⟩;rw [<-h.2];congr 1;omega
 ·rintro ⟨k,hk,h1,h2⟩;refine ⟨(r.Na[k],r.Na[k+1]),?_,by simp [h1,h2]⟩;rw [List.mem_iff_getElem];refine ⟨k,by simp only [List.length_zip,List.length_drop];omega,?_⟩;simp only [List.getElem_zip,List.getElem_drop,Prod.mk.injEq,true_and];congr 1;omega
structure StateOk (p:Ng) (x:Nh):Prop where
 sw:x.Nc.length=p.Nc.length
 tr:x.Nb.length=p.Nb.length
 pos:∀ n∈x.Nc,YN n=true
 cnt:Qai x.Nf=true
 un:∀ t∈x.Nb,(t.Nd=[]/\t.Nk=0)\/(1<=t.Nk/\t.Nk<=t.Nd.length)
 sc:∀ t∈x.Nb,∀ s∈t.Nd,Yo p s=true
 nd:∀ t∈x.Nb,t.Nd.Nodup
 dj:∀ i j (hi:i < x.Nb.length) (hj:j < x.Nb.length),i≠j->∀ s∈x.Nb[i].Nd,s∉x.Nb[j].Nd
 ld:∀ t∈x.Nb,∀ k (hk:k+1 < t.Nd.length),JC p x.Nc t.Nd[k] t.Nd[k+1]=true
theorem Qwx:∀ (n:Nat) (l:List Int),l.Nodup->(∀ s∈l,0<=s/\s < (n:Int))->l.length<=n
  | 0,l,_,h=>by
    cases l with
    | nil=>simp
    | cons x xs=>have:=h x (by simp);omega
  | n+1,l,hn,h=>by
    have h1:=Qwx n (l.filter fun s=>decide (s≠(n:Int))) (hn.filter _) fun s hs=>by
      rw [List.mem_filter] at hs;have:=h s hs.1;have:=hs.2;simp at this;omega
    have h2:l.length<=(l.filter fun s=>decide (s≠(n:Int))).length+1:=by
      clear h h1
      induction l with
      | nil=>simp
      | cons x xs ih =>
        rw [List.nodup_cons] at hn;by_cases hx:x=(n:Int)
        · have : xs.filter (fun s => decide (s ≠ (n : Int))) = xs := by
            rw [List.filter_eq_self];intro a ha;simp only [ne_eq,decide_not,Bool.not_eq_true',decide_eq_false_iff_not];intro e;subst hx;subst e;exact hn.1 ha
          rw [List.filter_cons_of_neg (by simp [hx]),this];simp
        · rw [List.filter_cons_of_pos (by simp [hx])];have:=ih hn.2;simp only [List.length_cons];omega
    omega
theorem StateOk.len {p:Ng} {x:Nh} (h:StateOk p x) {t:Nm} (ht:t∈x.Nb):t.Nd.length<=p.Na.length :=
 Qwx _ _ (h.nd t ht) fun s hs=>by
  have:=h.sc t ht s hs;unfold Yo at this;simp at this;omega
theorem StateOk.s {p:Ng} (hp:PlantOk p) {x:Nh} (h:StateOk p x):StateS x :=
 ⟨by have:=h.sw;have:=hp.w4;omega,by have:=h.tr;have:=hp.t3;omega,fun t ht=>by have:=h.len ht;have:=hp.s8;omega⟩
end Go.Gw

end
section
set_option maxRecDepth 4096
namespace Go.Gw
open Go
attribute [local irreducible] loop
theorem liesB_iff {p:Ng} {sw:List Int} {r:Nq} {secs:List Int}:YG p sw r secs=true↔∀ k (h1:k < p.Nc.length) (h2:k < r.Nr.length) (h3:k < sw.length),p.Nc[k].Ni∈secs->r.Nr[k]=sw[k]:=by
  unfold YG;rw [Bool.not_eq_true',List.any_eq_false];constructor
  · intro h k h1 h2 h3 hm;have:=h (p.Nc[k],(r.Nr[k],sw[k])) (by
      rw [List.mem_iff_getElem];exact ⟨k,by simp only [List.length_zip];omega,by simp only [List.getElem_zip]⟩)
    simp only [Qdb,hm,decide_true,Bool.true_and,Bool.not_eq_true',decide_eq_false_iff_not,Decidable.not_not] at this;exact this
  · intro h q hq;obtain ⟨k,hk,rfl⟩:=List.getElem_of_mem hq;simp only [List.length_zip] at hk;simp only [List.getElem_zip,Qdb,Bool.and_eq_true,decide_eq_true_eq,Bool.not_eq_true',decide_eq_false_iff_not,not_and,Decidable.not_not];exact fun hm=>h k (by omega) (by omega) (by omega) hm
theorem QGh {p:Ng} {sw:List Int} {r:Nq} {a b:List Int} (h:YG p sw r a=true) (hs:∀ s∈b,s∈a):YG p sw r b=true :=
 liesB_iff.2 fun k h1 h2 h3 hm=>liesB_iff.1 h k h1 h2 h3 (hs _ hm)
theorem QGi {p:Ng} {sw:List Int} {r:Nq} {a:List Int} {i:Nat} {v:Int} (hi:∀ h:i < p.Nc.length,p.Nc[i].Ni∉a) (h:YG p sw r a=true):YG p (sw.set i v) r a=true :=
 liesB_iff.2 fun k h1 h2 h3 hm=>by
  have hne:i≠k:=fun e=>by subst e;exact hi h1 hm
  rw [List.getElem_set_ne hne];exact liesB_iff.1 h k h1 h2 (by simpa using h3) hm
theorem leadsB_iff {p:Ng} {sw:List Int} {a b:Int}:JC p sw a b=true↔∃ r∈p.Nj,ZH r a b=true/\YG p sw r [a,b]=true:=by
 unfold JC;rw [List.any_eq_true];simp only [Bool.and_eq_true]
theorem Qsa {x:Nh} {s:Int} (h:YV x s=false):∀ t∈x.Nb,s∉t.Nd:=by
 unfold YV at h;rw [List.any_eq_false] at h;intro t ht hm;exact h t ht (decide_eq_true hm)
theorem takenB_yes {x:Nh} {s:Int}:YV x s=true↔∃ t∈x.Nb,s∈t.Nd:=by
 unfold YV;rw [List.any_eq_true];simp only [decide_eq_true_eq]
theorem Qfa {p:Ng} {x:Nh} (h:StateOk p x) {a:Nat} (ha:a < x.Nb.length) {t:Nm} (h1:(t.Nd=[]/\t.Nk=0)\/(1<=t.Nk/\t.Nk<=t.Nd.length)) (h2:∀ s∈t.Nd,Yo p s=true) (h3:t.Nd.Nodup)
  (h4:∀ j (hj:j < x.Nb.length),j≠a->∀ s∈t.Nd,s∉x.Nb[j].Nd) (h5:∀ k (hk:k+1 < t.Nd.length),JC p x.Nc t.Nd[k] t.Nd[k+1]=true):StateOk p ⟨x.Nc,x.Nb.set a t,x.Nf⟩:=by
 have hm:∀ u∈x.Nb.set a t,u=t\/u∈x.Nb:=fun u hu=>by
  rcases List.mem_or_eq_of_mem_set hu with h | h
  ·exact .inr h
  ·exact .inl h
 refine ⟨h.sw,by simpa using h.tr,h.pos,h.cnt,fun u hu=>?_,fun u hu=>?_,fun u hu=>?_,fun i j hi hj hij s hs=>?_,fun u hu=>?_⟩
 ·rcases hm u hu with rfl | hu
  ·exact h1
  ·exact h.un u hu
 ·rcases hm u hu with rfl | hu
  ·exact h2
  ·exact h.sc u hu
 ·rcases hm u hu with rfl | hu
  ·exact h3
  ·exact h.nd u hu
 ·simp only [List.length_set] at hi hj;simp only [List.getElem_set] at hs ⊢;by_cases h6:a=i
  ·rw [if_pos h6] at hs;rw [if_neg (by omega)];exact h4 j hj (by omega) s hs
  ·rw [if_neg h6] at hs;by_cases h7:a=j
   ·rw [if_pos h7];exact fun hm=>h4 i hi (by omega) s hm hs
   ·rw [if_neg h7];exact h.dj i j hi hj hij s hs
 ·rcases hm u hu with rfl | hu
  ·exact h5
  ·exact h.ld u hu
theorem Qgg {p:Ng} {e:Nl} (h:Ym p e=0):0<=e.Kind/\e.Kind<=6:=by
 unfold Ym at h;by_cases h1:¬ (0<=e.Kind/\e.Kind<=6)
 ·rw [if_pos h1] at h;cases h
 ·omega
theorem Quq {p:Ng} {e:Nl} (h:Ym p e=0) (hk:e.Kind=2):0<=e.A/\e.A.toNat < p.Nc.length/\YN e.B=true:=by
 have h1:=Qgg h;unfold Ym at h;rw [if_neg (by omega),if_pos hk] at h;cases hb:Qck p e.A with
 | false=>rw [hb] at h;cases h
 | true =>
  rw [hb] at h;cases hc:YN e.B with
  | false=>rw [hc] at h;cases h
  | true =>
   unfold Qck at hb;simp at hb;exact ⟨hb.1,by omega,rfl⟩
theorem Qak {p:Ng} {e:Nl} (h:Ym p e=0) (hk:e.Kind≠2):0<=e.A/\e.A.toNat < p.Nb.length/\(e.Kind=0->Yo p e.B=true)/\(e.Kind=1->0<=e.B/\e.B.toNat < p.Nj.length)/\(e.Kind≠0->e.Kind≠1->e.B=0):=by
 have h1:=Qgg h;unfold Ym at h;rw [if_neg (by omega),if_neg hk] at h;cases hb:Z8 p e.A with
 | false=>rw [hb] at h;cases h
 | true =>
  rw [hb,cond_true] at h;unfold Z8 at hb;simp at hb;refine ⟨hb.1,by omega,fun h0=>?_,fun h0=>?_,fun h0 h2=>?_⟩
  ·rw [if_pos h0] at h;cases hc:Yo p e.B with
   | true=>rfl
   | false=>rw [hc] at h;cases h
  ·rw [if_neg (by omega),if_pos h0] at h;cases hc:Qci p e.B with
   | false=>rw [hc] at h;cases h
   | true=>unfold Qci at hc;simp at hc;omega
  ·rw [if_neg h0,if_neg h2] at h;by_cases h3:e.B=0
   ·exact h3
   ·rw [if_neg h3] at h;cases h
theorem Qaw {x:Nh} {e:Nl} (h:e.A.toNat < x.Nb.length):XC x e=x.Nb[e.A.toNat]:=by
 unfold XC;rw [List.getElem?_eq_getElem h];rfl
theorem Qyx {p:Ng} {e:Nl} (h:e.A.toNat < p.Nc.length):Qfh p e=p.Nc[e.A.toNat]:=by
 unfold Qfh;rw [List.getElem?_eq_getElem h];rfl
theorem Qho {p:Ng} {e:Nl} (h:e.B.toNat < p.Nj.length):X5 p e=p.Nj[e.B.toNat]:=by
 unfold X5;rw [List.getElem?_eq_getElem h];rfl
theorem Qib {p:Ng} (hp:PlantOk p) {x:Nh} (h:StateOk p x) {e:Nl} (he:Ym p e=0) (hs:Yt p x e=0):StateOk p (XX p x e):=by
  have hk:=Qgg he;unfold XX;by_cases h2:e.Kind=2
  · rw [if_pos h2];obtain ⟨a0,a1,a2⟩:=Quq he h2;unfold Yt at hs;rw [if_pos h2] at hs;have hn:YV x (Qfh p e).Ni=false:=by
      cases hb:YV x (Qfh p e).Ni with
      | false=>rfl
      | true=>rw [hb] at hs;cases hs
    rw [Qyx a1] at hn;refine ⟨by simpa using h.sw,h.tr,fun n hn=>?_,h.cnt,h.un,h.sc,h.nd,h.dj,fun t ht k hk=>?_⟩
    · rcases List.mem_or_eq_of_mem_set hn with h3 | rfl
      · exact h.pos n h3
      · exact a2
    · obtain ⟨r,hr,h3,h4⟩:=leadsB_iff.1 (h.ld t ht k hk);refine leadsB_iff.2 ⟨r,hr,h3,QGi (fun hi hm=>?_) h4⟩;have h5:=Qsa hn t ht;rcases List.mem_cons.1 hm with e1 | hm
      · rw [e1] at h5;exact h5 (List.getElem_mem _)
      · rw [List.mem_singleton.1 hm] at h5;exact h5 (List.getElem_mem _)
  rw [if_neg h2];obtain ⟨a0,a1,a2,a3,a4⟩:=Qak he h2;have ha:e.A.toNat < x.Nb.length:=by rw [h.tr];exact a1
  have ht:XC x e∈x.Nb:=by rw [Qaw ha];exact List.getElem_mem ha
  have hd:∀ j (hj:j < x.Nb.length),j≠e.A.toNat->∀ s∈(XC x e).Nd,s∉x.Nb[j].Nd:=fun j hj hne s hs=>by
    rw [Qaw ha] at hs;exact h.dj _ j ha hj (by omega) s hs
  have hu:=h.un _ ht;have hsc:=h.sc _ ht;have hnd:=h.nd _ ht;have hld:=h.ld _ ht;unfold Yt at hs;rw [if_neg h2] at hs;unfold trX;generalize XC x e=t at *
  by_cases h0:e.Kind=0
  · rw [if_pos h0] at hs;rw [if_pos h0];by_cases hc:t.Nd.length=0
    · rw [if_pos hc] at hs;have hn:YV x e.B=false:=by
        cases hb:YV x e.B with
        | false=>rfl
        | true=>rw [hb] at hs;cases hs
      refine Qfa h ha (.inr (by simp)) (fun s hs=>?_) (by simp) (fun j hj hne s hs hm=>?_) (fun k hk=>?_)
      · simp only [List.mem_singleton] at hs;subst hs;exact a2 h0
      · simp only [List.mem_singleton] at hs;subst hs;exact Qsa hn _ (List.getElem_mem hj) hm
      · simp at hk
    · rw [if_neg hc] at hs;cases hs
  rw [if_neg h0] at hs;rw [if_neg h0];by_cases hc:t.Nd.length=0
  · rw [if_pos hc] at hs;cases hs
  rw [if_neg hc] at hs;have hu2:1<=t.Nk/\t.Nk<=t.Nd.length:=by
    rcases hu with ⟨h3,_⟩ | h3
    · rw [h3] at hc;exact absurd rfl hc
    · exact h3
  by_cases h1:e.Kind=1
  · rw [if_pos h1] at hs;rw [if_pos h1];obtain ⟨b0,b1⟩:=a3 h1;have hr:X5 p e∈p.Nj:=by rw [Qho b1];exact List.getElem_mem b1
    generalize X5 p e=r at *
    by_cases h3:r.Na.head?=t.Nd.getLast?
    · rw [if_pos h3] at hs;have hn:(r.Na.drop 1).any (YV x)=false:=by
        cases hb:(r.Na.drop 1).any (YV x) with
        | false=>rfl
        | true=>rw [hb] at hs;cases hs
      have hl:YG p x.Nc r r.Na=true:=by
        rw [hn] at hs;cases hb:YG p x.Nc r r.Na with
        | true=>rfl
        | false=>rw [hb] at hs;cases hs
      rw [List.any_eq_false] at hn;have hn2:∀ s∈r.Na.drop 1,∀ u∈x.Nb,s∉u.Nd:=fun s hs=>Qsa (by have:=hn s hs;simpa using this)
      have h2r:=hp.r2 r hr;have hlast:∀ hi:t.Nd.length - 1 < t.Nd.length,∀ hj:0 < r.Na.length,t.Nd[t.Nd.length - 1]=r.Na[0]:=fun hi hj=>by
        rw [List.head?_eq_getElem?,List.getLast?_eq_getElem?,List.getElem?_eq_getElem hj,List.getElem?_eq_getElem hi] at h3;exact (Option.some.inj h3).symm
      refine Qfa h ha (.inr ?_) (fun s hs=>?_) ?_ (fun j hj hne s hs=>?_) (fun k hk=>?_)
      · simp only [List.length_append];omega
      · rcases List.mem_append.1 hs with h4 | h4
        · exact hsc s h4
        · exact hp.rs r hr s (List.mem_of_mem_drop h4)
      · show (t.Nd++r.Na.drop 1).Nodup;rw [List.nodup_append];refine ⟨hnd,List.Nodup.sublist (List.drop_sublist _ _) (hp.rd r hr),fun s hs u hu e=>?_⟩;subst e;exact hn2 s hu t ht hs
      · rcases List.mem_append.1 hs with h4 | h4
        · exact hd j hj hne s h4
        · exact hn2 s h4 _ (List.getElem_mem hj)
      · simp only [List.length_append,List.length_drop] at hk;by_cases h5:k+1 < t.Nd.length
        · simp only [List.getElem_append,h5,dif_pos,show k < t.Nd.length by omega];exact hld k h5
        · have e2 : (t.Nd ++ r.Na.drop 1)[k + 1]'(by simp only [List.length_append, List.length_drop]; omega) = r.Na[k + 1 - t.Nd.length + 1]'(by omega) := by
            rw [List.getElem_append_right (by omega),List.getElem_drop];congr 1;omega
          have e1:(t.Nd++r.Na.drop 1)[k]'(by simp only [List.length_append, List.length_drop];omega)=r.Na[k+1 - t.Nd.length]'(by omega) := by
            by_cases h6:k+1=t.Nd.length
            · rw [List.getElem_append_left (show k < t.Nd.length by omega)];have:=hlast (by omega) (by omega);simp only [show k+1 - t.Nd.length=0 by omega,<-this];congr 1;omega
            · rw [List.getElem_append_right (by omega),List.getElem_drop];congr 1;omega
          rw [e1,e2];refine leadsB_iff.2 ⟨r,hr,pairB_iff.2 ⟨k+1 - t.Nd.length,by omega,rfl,rfl⟩,QGh hl fun s hs=>?_⟩;rcases List.mem_cons.1 hs with rfl | hs
          · exact List.getElem_mem _
          · rw [List.mem_singleton.1 hs];exact List.getElem_mem _
    · rw [if_neg h3] at hs;cases hs
  rw [if_neg h1] at hs;rw [if_neg h1];by_cases h4:e.Kind=4
  · rw [if_pos h4] at hs;rw [if_neg (by omega),if_pos h4];have hx:1 < t.Nk:=by
      by_cases h5:1 < t.Nk
      · exact h5
      · rw [if_neg h5] at hs;cases hs
    refine Qfa h ha (.inr ?_) (fun s hs=>hsc s (List.mem_of_mem_drop hs)) (List.Nodup.sublist (List.drop_sublist _ _) hnd) (fun j hj hne s hs=>hd j hj hne s (List.mem_of_mem_drop hs)) (fun k hk=>?_)
    · simp only [List.length_drop];omega
    · simp only [List.length_drop] at hk;simp only [List.getElem_drop];have:=hld (1+k) (by omega);exact this
  rw [if_neg h4] at hs;rw [show (if e.Kind=4 then (⟨t.Nd.drop 1,t.Nk - 1⟩:Nm) else if e.Kind=5 then ⟨t.Nd.take (t.Nd.length - 1),t.Nk⟩ else ⟨[],0⟩)=(if e.Kind=5 then ⟨t.Nd.take (t.Nd.length - 1),t.Nk⟩ else ⟨[],0⟩) from if_neg h4];by_cases h35:e.Kind=3\/e.Kind=5
  · rw [if_pos h35] at hs;have hx:t.Nk < t.Nd.length:=by
      by_cases h5:t.Nk < t.Nd.length
      · exact h5
      · rw [if_neg h5] at hs;cases hs
    by_cases h3:e.Kind=3
    · rw [if_pos h3];exact Qfa h ha (.inr ⟨by show 1<=t.Nk+1;omega,by show t.Nk+1<=(t.Nd.length:Int);omega⟩) hsc hnd hd hld
    · rw [if_neg h3,if_pos (by omega)];refine Qfa h ha (.inr ?_) (fun s hs=>hsc s (List.mem_of_mem_take hs)) (List.Nodup.sublist (List.take_sublist _ _) hnd) (fun j hj hne s hs=>hd j hj hne s (List.mem_of_mem_take hs)) (fun k hk=>?_)
      · simp only [List.length_take];omega
      · simp only [List.length_take] at hk;simp only [List.getElem_take];exact hld k (by omega)
  · rw [if_neg (by omega),if_neg (by omega)];exact Qfa h ha (.inl ⟨rfl,rfl⟩) (fun s hs=>by simp at hs) (by simp) (fun j hj hne s hs=>by simp at hs) (fun k hk=>by simp at hk)
end Go.Gw

end
section
set_option maxRecDepth 4096
namespace Go.Gw
open Go
attribute [local irreducible] loop
def chE (p:Ng) (x:Nh) (n:Nat) (t:Nm) (k:Nat) (s:Int):Int :=
 bif Yo p s then (bif decide (s∈t.Nd.take k)||(x.Nb.take n).any (fun o=>decide (s∈o.Nd)) then 17 else if k=0 then 0 else bif JC p x.Nc (t.Nd[k - 1]?.getD 0) s then 0 else 23) else 6
def ZX (p:Ng) (x:Nh) (n:Nat) (t:Nm) (k:Nat):Int:=(t.Nd[k]?.map (chE p x n t k)).getD 0
def JL (t:Nm):Bool:=if t.Nd.length=0 then decide (t.Nk=0) else decide (1<=t.Nk)&&decide (t.Nk<=t.Nd.length)
def tsE (p:Ng) (x:Nh) (n:Nat) (t:Nm):Int:=bif JL t then (match Xy (ZX p x n t) t.Nd.length with | some k=>ZX p x n t k | none=>0) else 3
def Jn (p:Ng) (x:Nh) (n:Nat):Int:=(x.Nb[n]?.map (tsE p x n)).getD 0
def Qdk (p:Ng) (x:Nh):Int :=
 if x.Nc.length=p.Nc.length/\x.Nb.length=p.Nb.length then
  (bif x.Nc.all YN&&Qai x.Nf then (match Xy (Jn p x) x.Nb.length with | some k=>Jn p x k | none=>0) else 2) else 10
theorem tsE_zero {p:Ng} {x:Nh} {n:Nat} {t:Nm}:tsE p x n t=0↔JL t=true/\∀ k (hk:k < t.Nd.length),chE p x n t k t.Nd[k]=0:=by
 unfold tsE;cases hu:JL t with
 | false=>simp
 | true =>
  simp only [cond_true,true_and];have hg:∀ k (hk:k < t.Nd.length),ZX p x n t k=chE p x n t k t.Nd[k]:=fun k hk=>ZG _ _ _ hk
  cases hf:Xy (ZX p x n t) t.Nd.length with
  | some k =>
   obtain ⟨h1,h2,_⟩:=JT hf;constructor
   ·intro h;exact absurd h h2
   ·intro h;exact absurd ((hg k h1).trans (h k h1)) h2
  | none=>exact ⟨fun _ k hk=>(hg k hk).symm.trans (Qgh hf k hk),fun _=>rfl⟩
theorem chE_zero {p:Ng} {x:Nh} {n:Nat} {t:Nm} {k:Nat} {s:Int}:chE p x n t k s=0↔Yo p s=true/\s∉t.Nd.take k/\(∀ o∈x.Nb.take n,s∉o.Nd)/\(k≠0->JC p x.Nc (t.Nd[k - 1]?.getD 0) s=true):=by
  unfold chE;cases Yo p s with
  | false=>simp
  | true =>
    simp only [cond_true,true_and];by_cases h1:s∈t.Nd.take k
    · simp [h1]
    by_cases h2:∀ o∈x.Nb.take n,s∉o.Nd
    · have h3 : (x.Nb.take n).any (fun o => decide (s ∈ o.Nd)) = false := by
        rw [List.any_eq_false];intro o ho hm;exact h2 o ho (of_decide_eq_true hm)
      rw [h3,decide_eq_false h1];by_cases hk:k=0
      · simp [hk];exact h2
      · simp only [Bool.or_false,cond_false,if_neg hk];cases JC p x.Nc (t.Nd[k - 1]?.getD 0) s with
        | false=>simp [hk]
        | true=>simp [h1];exact h2
    · have h3 : (x.Nb.take n).any (fun o => decide (s ∈ o.Nd)) = true := by
        cases hb:(x.Nb.take n).any (fun o=>decide (s∈o.Nd)) with
        | true=>rfl
        | false =>
          rw [List.any_eq_false] at hb;exact absurd (fun o ho hm=>hb o ho (decide_eq_true hm)) h2
      rw [h3,Bool.or_true];simp [h2]
theorem undB_iff {t:Nm}:JL t=true↔(t.Nd=[]/\t.Nk=0)\/(1<=t.Nk/\t.Nk<=t.Nd.length):=by
 unfold JL;by_cases h:t.Nd.length=0
 ·rw [if_pos h];have h2:t.Nd=[]:=List.length_eq_zero_iff.1 h;simp only [decide_eq_true_eq];constructor
  ·intro h3;exact .inl ⟨h2,h3⟩
  ·rintro (h3 | h3)
   ·exact h3.2
   ·omega
 ·rw [if_neg h];simp only [Bool.and_eq_true,decide_eq_true_eq];constructor
  ·intro h3;exact .inr h3
  ·rintro (h3 | h3)
   ·rw [h3.1] at h;exact absurd rfl h
   ·exact h3
theorem state_iff {p:Ng} {x:Nh}:Qdk p x=0↔StateOk p x:=by
  have hg:∀ k (hk:k < x.Nb.length),Jn p x k=tsE p x k x.Nb[k]:=fun k hk=>ZG _ _ _ hk
  unfold Qdk;constructor
  · intro h;by_cases h1:x.Nc.length=p.Nc.length/\x.Nb.length=p.Nb.length
    · rw [if_pos h1] at h;cases h2:x.Nc.all YN&&Qai x.Nf with
      | false=>rw [h2] at h;cases h
      | true =>
        rw [h2,cond_true] at h;rw [Bool.and_eq_true,List.all_eq_true] at h2;cases hf:Xy (Jn p x) x.Nb.length with
        | some k=>rw [hf] at h;exact absurd h (JT hf).2.1
        | none =>
          have hz:∀ n (hn:n < x.Nb.length),JL x.Nb[n]=true/\∀ k (hk:k < x.Nb[n].Nd.length),chE p x n x.Nb[n] k x.Nb[n].Nd[k]=0:=fun n hn=>tsE_zero.1 ((hg n hn).symm.trans (Qgh hf n hn))
          refine ⟨h1.1,h1.2,h2.1,h2.2,fun t ht=>?_,fun t ht s hs=>?_,fun t ht=>?_,fun i j hi hj hij s hs hm=>?_,fun t ht k hk=>?_⟩
          · obtain ⟨n,hn,rfl⟩:=List.getElem_of_mem ht;exact undB_iff.1 (hz n hn).1
          · obtain ⟨n,hn,rfl⟩:=List.getElem_of_mem ht;obtain ⟨k,hk,rfl⟩:=List.getElem_of_mem hs;exact (chE_zero.1 ((hz n hn).2 k hk)).1
          · obtain ⟨n,hn,rfl⟩:=List.getElem_of_mem ht;exact Qwy fun k hk=>(chE_zero.1 ((hz n hn).2 k hk)).2.1
          · rcases Nat.lt_or_gt_of_ne hij with h3 | h3
            · obtain ⟨k,hk,rfl⟩:=List.getElem_of_mem hm;exact (chE_zero.1 ((hz j hj).2 k hk)).2.2.1 _ (List.mem_take_iff_getElem.2 ⟨i,by omega,rfl⟩) hs
            · obtain ⟨k,hk,rfl⟩:=List.getElem_of_mem hs;exact (chE_zero.1 ((hz i hi).2 k hk)).2.2.1 _ (List.mem_take_iff_getElem.2 ⟨j,by omega,rfl⟩) hm
          · obtain ⟨n,hn,rfl⟩:=List.getElem_of_mem ht;have:=(chE_zero.1 ((hz n hn).2 (k+1) hk)).2.2.2 (by omega);rwa [Nat.add_sub_cancel,List.getElem?_eq_getElem (show k < x.Nb[n].Nd.length by omega),Option.getD_some] at this
    · rw [if_neg h1] at h;cases h
  · intro h;rw [if_pos ⟨h.sw,h.tr⟩,show (x.Nc.all YN&&Qai x.Nf)=true by rw [Bool.and_eq_true,List.all_eq_true];exact ⟨h.pos,h.cnt⟩,cond_true];rw [QEp fun n hn=>by
      rw [hg n hn,tsE_zero];have ht:=List.getElem_mem hn;refine ⟨undB_iff.2 (h.un _ ht),fun k hk=>chE_zero.2 ⟨h.sc _ ht _ (List.getElem_mem hk),QLd (h.nd _ ht) hk,fun o ho hm=>?_,fun hk0=>?_⟩⟩
      · obtain ⟨i,hi,rfl⟩:=List.mem_take_iff_getElem.1 ho;exact h.dj i n (by omega) hn (by omega) _ hm (List.getElem_mem hk)
      · rw [List.getElem?_eq_getElem (show k - 1 < x.Nb[n].Nd.length by omega),Option.getD_some];have:=h.ld _ ht (k - 1) (by omega);simp only [show k - 1+1=k by omega] at this;exact this]
end Go.Gw

end
section
set_option maxRecDepth 4096
namespace Go.Gw
open Go
attribute [local irreducible] loop
theorem QFk {a b:List Int} (ha:0 < a.length) (hb:0 < b.length):decide (a[0]=b[b.length - 1])=decide (a.head?=b.getLast?):=by
 rw [List.head?_eq_getElem?,List.getLast?_eq_getElem?,List.getElem?_eq_getElem ha,List.getElem?_eq_getElem (show b.length - 1 < b.length by omega)];simp only [Option.some.injEq]
theorem Qtl {p:Ng} (hp:PlantOk p) {x:Nh} (h:StateOk p x) {e:Nl} (he:Ym p e=0) :
    Runs (Qem (some ⟨p,x⟩) e) fun r=>r.2=Yt p x e/\(Yt p x e=0->r.1=some ⟨p,XX p x e⟩):=by
  have hs:=h.s hp;have hw4:=hp.w4;have ht3:=hp.t3;have hkd:=Qgg he;have hsl:=h.sw;have htl:=h.tr;unfold Qem;by_cases h2:e.Kind=2
  · obtain ⟨a0,a1,a2⟩:=Quq he h2;have e1:Yt p x e=(bif YV x (Qfh p e).Ni then 17 else 0):=by unfold Yt;rw [if_pos h2]
    have e2:XX p x e=⟨x.Nc.set e.A.toNat e.B,x.Nb,x.Nf⟩:=by unfold XX;rw [if_pos h2]
    rw [e1,e2,Qyx a1,decide_eq_true h2,cond_true,Qq];show Runs (Option.bind (idx p.Nc e.A) _) _;rw [Qeg a0 a1,Qq,Qsb p hs _ (by simp),Qq];simp only [List.any_cons,List.any_nil,Bool.or_false];cases YV x p.Nc[e.A.toNat].Ni with
    | true=>exact Runs.some ⟨rfl,fun hh=>by cases hh⟩
    | false =>
      simp only [cond_false];rw [Qoc _ (by show x.Nc.length < _;omega),Qq];show Runs (Option.bind (idx x.Nc e.A) _) _;rw [Qeg a0 (by omega),Qq];exact Runs.some ⟨rfl,fun _=>rfl⟩
  obtain ⟨a0,a1,a2,a3,a4⟩:=Qak he h2;have ha:e.A.toNat < x.Nb.length:=by omega
  have htm:XC x e∈x.Nb:=by rw [Qaw ha];exact List.getElem_mem ha
  have hcl:=h.len htm;have hs8:=hp.s8;have hu:=h.un _ htm;have e2:XX p x e=⟨x.Nc,x.Nb.set e.A.toNat (trX p (XC x e) e),x.Nf⟩:=by unfold XX;rw [if_neg h2]
  have hnx:=fun c u=>QIx p x a0 ha (by omega) c u
  rw [e2,decide_eq_false h2,cond_false,Qq];show Runs (Option.bind (idx x.Nb e.A) _) _;rw [Qeg a0 ha,Qq,<-Qaw ha];unfold Yt trX;simp only [if_neg h2];generalize XC x e=t at *
  by_cases h0:e.Kind=0
  · simp only [if_pos h0,decide_eq_true h0,cond_true];rw [Yy,Qq,Qsb p hs _ (by simp),Qq,Yy,Qq,Zw _ (by simp),Qq,Qq];simp only [List.any_cons,List.any_nil,Bool.or_false,QFa];by_cases hc:t.Nd.length=0
    · simp only [hc,Int.natCast_zero,decide_true,cond_true,ne_eq,not_true_eq_false,if_false,if_true];cases YV x e.B with
      | true=>exact Runs.some ⟨rfl,fun hh=>by cases hh⟩
      | false =>
        simp only [Bool.not_false,cond_true,decide_true,Bool.not_true,cond_false];rw [hnx,Qq];exact Runs.some ⟨rfl,fun _=>rfl⟩
    · rw [if_neg hc,decide_eq_false (show ¬ (t.Nd.length:Int)=0 by omega)];exact Runs.some ⟨rfl,fun hh=>by cases hh⟩
  simp only [if_neg h0,decide_eq_false h0,cond_false];by_cases hc:t.Nd.length=0
  · rw [decide_eq_true (show (t.Nd.length:Int)=0 by omega),if_pos hc];exact Runs.some ⟨rfl,fun hh=>by cases hh⟩
  rw [decide_eq_false (show ¬ (t.Nd.length:Int)=0 by omega),cond_false,Yy,Qq,if_neg hc];have hu2:1<=t.Nk/\t.Nk<=t.Nd.length:=by
    rcases hu with ⟨h3,_⟩ | h3
    · rw [h3] at hc;exact absurd rfl hc
    · exact h3
  by_cases h1:e.Kind=1
  · simp only [if_pos h1,decide_eq_true h1,cond_true];obtain ⟨b0,b1⟩:=a3 h1;rw [show (⟨p,x⟩:Nn).Nw.Nj=p.Nj from rfl,Qeg b0 b1,Qq,<-Qho b1];have hr:X5 p e∈p.Nj:=by rw [Qho b1];exact List.getElem_mem b1
    generalize X5 p e=r at *
    have hr2:=hp.r2 r hr;have hr8:=hp.r8 r hr;have hrn:=hp.rn r hr;rw [Quh (by omega),Qq,show (0:Int)=((0:Nat):Int) from rfl,Xt (show 0 < r.Na.length by omega),Qq,
      show w64 ((t.Nd.length:Int) - 1)=((t.Nd.length - 1:Nat):Int) by rw [Zg (by omega)];omega,Xt (show t.Nd.length - 1 < t.Nd.length by omega),Qq,Yy,Qq,
      Qsb p hs _ (by simp;omega),Qq,Yy,Qq,Qvl hrn hsl (by omega) (by omega),Qq,Yy,Qq,Zw _ (by simp),Qq,QFk (by omega) (by omega),Qee]
    by_cases h3:r.Na.head?=t.Nd.getLast?
    · simp only [h3,decide_true,cond_true,Int.natCast_zero,ne_eq,not_true_eq_false,if_false,if_true];cases hb:(r.Na.drop 1).any (YV x) with
      | true=>exact Runs.some ⟨rfl,fun hh=>by cases hh⟩
      | false =>
        cases hl:YG p x.Nc r r.Na with
        | false=>exact Runs.some ⟨rfl,fun hh=>by cases hh⟩
        | true =>
          simp only [Bool.not_false,cond_true,Int.natCast_zero,not_true_eq_false,if_false,decide_true,Bool.not_true,cond_false];rw [QBv _ _ (by omega) (by simp;omega),Qq,hnx,Qq];exact Runs.some ⟨rfl,fun _=>rfl⟩
    · simp only [h3,decide_false,cond_false,if_false];exact Runs.some ⟨rfl,fun hh=>by cases hh⟩
  simp only [if_neg h1,decide_eq_false h1,cond_false];by_cases h3:e.Kind=3
  · simp only [if_pos h3,decide_eq_true h3,cond_true];rw [if_neg (by omega),if_pos (.inl h3),hnx,Qq,Zg (by omega)];by_cases h5:t.Nk < t.Nd.length
    · rw [if_pos h5,decide_eq_true h5];exact Runs.some ⟨rfl,fun _=>rfl⟩
    · rw [if_neg h5,decide_eq_false h5];exact Runs.some ⟨rfl,fun hh=>by cases hh⟩
  simp only [if_neg h3,decide_eq_false h3,cond_false];by_cases h4:e.Kind=4
  · simp only [if_pos h4,decide_eq_true h4,cond_true];rw [Quh (by omega),Qq,hnx,Qq,Yy,Qq,Zg (by omega)];by_cases h5:1 < t.Nk
    · rw [if_pos h5,decide_eq_true h5];exact Runs.some ⟨rfl,fun _=>rfl⟩
    · rw [if_neg h5,decide_eq_false h5];exact Runs.some ⟨rfl,fun hh=>by cases hh⟩
  simp only [if_neg h4,decide_eq_false h4,cond_false];by_cases h5:e.Kind=5
  · simp only [if_pos h5,decide_eq_true h5,cond_true];rw [if_pos (.inr h5),show w64 ((t.Nd.length:Int) - 1)=((t.Nd.length - 1:Nat):Int) by rw [Zg (by omega)];omega,Qcy (by omega),Qq,hnx,Qq];by_cases h6:t.Nk < t.Nd.length
    · rw [if_pos h6,decide_eq_true h6];exact Runs.some ⟨rfl,fun _=>rfl⟩
    · rw [if_neg h6,decide_eq_false h6];exact Runs.some ⟨rfl,fun hh=>by cases hh⟩
  simp only [if_neg h5,decide_eq_false h5,cond_false];rw [if_neg (by omega),hnx,Qq,Yy,Qq];by_cases h6:t.Nd.length=1
  · rw [if_pos h6,decide_eq_true (by omega)];exact Runs.some ⟨rfl,fun _=>rfl⟩
  · rw [if_neg h6,decide_eq_false (by omega)];exact Runs.some ⟨rfl,fun hh=>by cases hh⟩
/-! ### The beginning, copies -/
theorem QQy (p:Ng) {x:Nh} (h:StateS x):Qgs (some ⟨p,x⟩)=some x:=by
 have h1:=h.sw;have h2:=h.tr;unfold Qgs;rw [Qq];show Option.bind (Option.bind (Qcj x.Nc) _) _=_;rw [Qoc _ (by omega),Qq,Qq];simp only [Qq];have hl:=Qep (step:=Qgr ⟨p,x⟩) (o:=x.Nb) (fun k=>((k:Int),x.Nb.take k)) x.Nb.length (fun k hk=>by
  unfold Qgr;show (bif decide ((k:Int) < (x.Nb.length:Int)) then Option.bind (idx x.Nb (k:Int)) _ else _)=_;rw [XL hk,cond_true,Xt hk,Qq,Qoc _ (by have:=h.ch _ (List.getElem_mem hk);omega),Qq,JA (by simp;omega),Qq,XE k (by omega)];show some (Sum.inl (_,x.Nb.take k++[x.Nb[k]]))=_;have:=Qrz x.Nb id k hk;simp only [List.map_id,id_eq] at this;rw [this]) (by
  unfold Qgr;show (bif decide ((x.Nb.length:Int) < (x.Nb.length:Int)) then _ else _)=_;rw [XM,List.take_length];rfl)
 have hl2:loop (Qgr ⟨p,x⟩) (0,([]:List Nm))=some x.Nb:=hl;rw [hl2];rfl
end Go.Gw

end
section
set_option maxRecDepth 4096
namespace Go.Gw
open Go
attribute [local irreducible] loop
def QAb:Nh:=⟨[],[],0⟩
def evE (p:Ng) (x:Nh) (e:Nl):Int:=if Ym p e=0 then Yt p x e else Ym p e
def evs (p:Ng):Nh->Nat->List Nl->Nh⊕(Nat×Int)
 | x,_,[]=>.inl x
 | x,k,e::l=>if evE p x e=0 then evs p (XX p x e) (k+1) l else .inr (k,evE p x e)
end Go.Gw

end
section
set_option maxRecDepth 4096
namespace Go.Gw
open Go
attribute [local irreducible] loop
theorem Qpx {σ β ρ:Type} {step:σ->Option (σ⊕ρ)} (n M:Nat) (f:Nat->List β) (S:Nat->List β->σ) (o:List β->ρ) (acc0:List β) (hf:∀ k,k < n->(f k).length<=M)
  (hs:∀ k,k < n->∀ acc:List β,acc.length<=acc0.length+k * M->step (S k acc)=some (.inl (S (k+1) (acc++f k)))) (he:∀ acc,step (S n acc)=some (.inr (o acc))) :
  loop step (S 0 acc0)=some (o (acc0++(List.range n).flatMap f))/\(acc0++(List.range n).flatMap f).length<=acc0.length+n * M:=by
 have key:∀ k,k<=n->(acc0++(List.range k).flatMap f).length<=acc0.length+k * M/\loop step (S 0 acc0)=loop step (S k (acc0++(List.range k).flatMap f)):=by
  intro k
  induction k with
  | zero=>intro _;exact ⟨by simp,by simp⟩
  | succ k ih =>
   intro hk;obtain ⟨h1,h2⟩:=ih (by omega);have e:acc0++(List.range (k+1)).flatMap f=acc0++(List.range k).flatMap f++f k:=by
    rw [List.range_succ,List.flatMap_append,List.append_assoc];simp
   refine ⟨?_,?_⟩
   ·rw [e,List.length_append];have:=hf k (by omega);rw [Nat.succ_mul];omega
   ·rw [h2,J6 (hs k (by omega) _ h1),e]
 obtain ⟨h1,h2⟩:=key n (Nat.le_refl n);exact ⟨by rw [h2];exact Qam (he _),h1⟩
def YF (p:Ng) (k:Nat):Nat:=if k=2 then p.Nc.length else p.Nb.length
def X1 (p:Ng) (k:Nat):Nat:=if k=0 then p.Na.length else if k=1 then p.Nj.length else if k=2 then 2 else 1
def ZF (k a b:Nat):Nl:=⟨(k:Int),(a:Int),(b:Int)⟩
def JS (p:Ng):List Nl:=(List.range 7).flatMap fun k=>(List.range (YF p k)).flatMap fun a=>(List.range (X1 p k)).flatMap fun b=>[ZF k a b]
def Qbk (p:Ng) (x:Nh):List Nl:=(JS p).filter fun e=>decide (Yt p x e=0)
theorem Qup {p:Ng} {k a b:Nat} (hk:k < 7):Ym p (ZF k a b)=0↔a < YF p k/\b < X1 p k:=by
 unfold Ym ZF YF X1 Qck Z8 Yo Qci YN;simp only;rw [if_neg (by omega)];by_cases h2:k=2
 ·subst h2;simp only [Int.cast_ofNat_Int,if_true,show ¬ (2=0) by omega,show ¬ (2=1) by omega,if_false];by_cases ha:a < p.Nc.length
  ·rw [decide_eq_true (show (0:Int)<=a by omega),decide_eq_true (show (a:Int)<=(p.Nc.length:Int) - 1 by omega)];by_cases hb:b < 2
   ·rw [show (decide ((b:Int)=0)||decide ((b:Int)=1))=true by simp only [Bool.or_eq_true,decide_eq_true_eq];omega];simp [ha,hb]
   ·rw [decide_eq_false (show ¬ (b:Int)=0 by omega),decide_eq_false (show ¬ (b:Int)=1 by omega)];simp [hb]
  ·rw [decide_eq_false (show ¬ (a:Int)<=(p.Nc.length:Int) - 1 by omega),Bool.and_false];simp [ha]
 ·rw [if_neg (show ¬ (k:Int)=2 by omega),if_neg h2];by_cases ha:a < p.Nb.length
  ·rw [decide_eq_true (show (0:Int)<=a by omega),decide_eq_true (show (a:Int)<=(p.Nb.length:Int) - 1 by omega)];simp only [Bool.and_self,cond_true,ha,true_and,if_neg h2];by_cases h0:k=0
   ·rw [if_pos (show (k:Int)=0 by omega),if_pos h0];by_cases hb:b < p.Na.length
    ·rw [decide_eq_true (show (0:Int)<=b by omega),decide_eq_true (show (b:Int)<=(p.Na.length:Int) - 1 by omega)];simp [hb]
    ·rw [decide_eq_false (show ¬ (b:Int)<=(p.Na.length:Int) - 1 by omega),Bool.and_false];simp [hb]
   ·rw [if_neg (show ¬ (k:Int)=0 by omega),if_neg h0];by_cases h1:k=1
    ·rw [if_pos (show (k:Int)=1 by omega),if_pos h1];by_cases hb:b < p.Nj.length
     ·rw [decide_eq_true (show (0:Int)<=b by omega),decide_eq_true (show (b:Int)<=(p.Nj.length:Int) - 1 by omega)];simp [hb]
     ·rw [decide_eq_false (show ¬ (b:Int)<=(p.Nj.length:Int) - 1 by omega),Bool.and_false];simp [hb]
    ·rw [if_neg (show ¬ (k:Int)=1 by omega),if_neg h1];by_cases hb:b=0
     ·subst hb;simp
     ·rw [if_neg (by omega)];constructor
      ·intro h;cases h
      ·intro h;omega
  ·rw [decide_eq_false (show ¬ (a:Int)<=(p.Nb.length:Int) - 1 by omega),Bool.and_false];simp [ha]
theorem QDc {p:Ng} {e:Nl} (h:e∈JS p):Ym p e=0:=by
 unfold JS at h;simp only [List.mem_flatMap,List.mem_range,List.mem_singleton] at h;obtain ⟨k,hk,a,ha,b,hb,rfl⟩:=h;exact (Qup hk).2 ⟨ha,hb⟩
def Zk (p:Ng) (x:Nh) (l:List Nl):List Ns:=(l.filter fun e=>decide (Yt p x e=0)).map fun e=>Ns.mk e (some ⟨p,XX p x e⟩)
theorem Qys {p:Ng} {x:Nh} {f:Nat->List Nl}:∀ (l:List Nat),Zk p x (l.flatMap f)=l.flatMap fun k=>Zk p x (f k)
 | []=>rfl
 | k::l=>by
  have:=Qys (p:=p) (x:=x) (f:=f) l;unfold Zk at this ⊢;rw [List.flatMap_cons,List.filter_append,List.map_append,this,List.flatMap_cons]
theorem QPu {p:Ng} {x:Nh} {e:Nl}:(Zk p x [e]).length<=1:=by
 unfold Zk;rw [List.length_map];exact List.length_filter_le _ _
theorem QMe {p:Ng} (hp:PlantOk p) {x:Nh} (h:StateOk p x):Qdd (some ⟨p,x⟩)=some (Zk p x (JS p)):=by
  have hs8:=hp.s8;have ht3:=hp.t3;have hw4:=hp.w4;have hr10:=hp.r10;have hb:∀ k,X1 p k<=10:=fun k=>by unfold X1;split<;>(try split)<;>(try split)<;>omega
  have ha:∀ k,YF p k<=4:=fun k=>by unfold YF;split<;>omega
  -- the innermost loop
  have l0:∀ k:Nat,k < 7->∀ a:Nat,a < YF p k->∀ acc:List Ns,acc.length<=1000->loop (Qgp (some ⟨p,x⟩) (k:Int) ((X1 p k:Nat):Int) (a:Int)) (0,acc)=some (.inr (acc++(List.range (X1 p k)).flatMap fun b=>Zk p x [ZF k a b]))/\(acc++(List.range (X1 p k)).flatMap fun b=>Zk p x [ZF k a b]).length<=acc.length+X1 p k * 1 :=
    fun k hk a hka acc hacc=>Qpx (step:=Qgp (some ⟨p,x⟩) (k:Int) ((X1 p k:Nat):Int) (a:Int)) (X1 p k) 1 (fun b=>Zk p x [ZF k a b]) (fun b acc=>((b:Int),acc)) (fun acc=>.inr acc) acc (fun _ _=>QPu) (fun b hbk acc' hl=>by
      have hb':=hb k;have he:Ym p (ZF k a b)=0:=(Qup hk).2 ⟨hka,hbk⟩;obtain ⟨r,hr,h1,h2⟩:=Qtl hp h he;unfold Qgp;simp only [XL hbk,cond_true];rw [show (Nl.mk (k:Int) (a:Int) (b:Int))=ZF k a b from rfl,hr,Qq,h1];by_cases h3:Yt p x (ZF k a b)=0
      · rw [decide_eq_true h3,cond_true,JA (by simp;omega),Qq,h2 h3,XE b (by omega)];simp [Zk,h3]
      · rw [decide_eq_false h3,cond_false,XE b (by omega)];simp [Zk,h3]) (fun acc'=>by
      unfold Qgp;simp only [XM];rfl)
  have l1:∀ k:Nat,k < 7->∀ acc:List Ns,acc.length<=500->loop (Qgq (some ⟨p,x⟩) (k:Int) ((YF p k:Nat):Int) ((X1 p k:Nat):Int)) (0,acc)=some (.inr (acc++(List.range (YF p k)).flatMap fun a=>(List.range (X1 p k)).flatMap fun b=>Zk p x [ZF k a b]))/\(acc++(List.range (YF p k)).flatMap fun a=>(List.range (X1 p k)).flatMap fun b=>Zk p x [ZF k a b]).length<=acc.length+YF p k * 10 :=
    fun k hk acc hacc=>Qpx (step:=Qgq (some ⟨p,x⟩) (k:Int) ((YF p k:Nat):Int) ((X1 p k:Nat):Int)) (YF p k) 10 (fun a=>(List.range (X1 p k)).flatMap fun b=>Zk p x [ZF k a b]) (fun a acc=>((a:Int),acc)) (fun acc=>.inr acc) acc (fun a hka=>by
      have:=(l0 k hk a hka [] (by simp)).2;have:=hb k;simp only [List.nil_append,List.length_nil] at *
      omega) (fun a hka acc' hl=>by
      have ha':=ha k;have hl2:a * 10<=40:=by omega
      unfold Qgq;simp only [XL hka,cond_true];rw [(l0 k hk a hka acc' (by omega)).1,Qq,XE a (by omega)];rfl) (fun acc'=>by
      unfold Qgq;simp only [XM];rfl)
  have l2 := (Qpx (step := Qkj ⟨p, x⟩ (some ⟨p, x⟩)) (ρ := (List Ns) ⊕ (List Ns)) 7 40 (fun k => (List.range (YF p k)).flatMap fun a => (List.range (X1 p k)).flatMap fun b => Zk p x [ZF k a b]) (fun k acc => ((k : Int), acc)) (fun acc => .inr acc) [] (fun k hk => by
      have:=(l1 k hk [] (by simp)).2;have:=ha k;simp only [List.nil_append,List.length_nil] at *
      omega) (fun k hk acc hl=>by
      have e:(bif decide ((k:Int)=0) then some (((p.Nb.length:Nat):Int),((p.Na.length:Nat):Int)) else bif decide ((k:Int)=1) then some (((p.Nb.length:Nat):Int),((p.Nj.length:Nat):Int)) else bif decide ((k:Int)=2) then some (((p.Nc.length:Nat):Int),2) else some (((p.Nb.length:Nat):Int),1))=some (((YF p k:Nat):Int),((X1 p k:Nat):Int)):=by
        unfold YF X1;by_cases h0:k=0
        · subst h0;rfl
        by_cases h1:k=1
        · subst h1;rfl
        by_cases h2:k=2
        · subst h2;rfl
        rw [decide_eq_false (by omega),decide_eq_false (by omega),decide_eq_false (by omega),if_neg h2,if_neg h0,if_neg h1,if_neg h2];rfl
      unfold Qkj;simp only [show decide ((k:Int) < 7)=true by rw [decide_eq_true_eq];omega,cond_true];show Option.bind (bif decide ((k:Int)=0) then some (((p.Nb.length:Nat):Int),((p.Na.length:Nat):Int)) else bif decide ((k:Int)=1) then some (((p.Nb.length:Nat):Int),((p.Nj.length:Nat):Int)) else bif decide ((k:Int)=2) then some (((p.Nc.length:Nat):Int),2) else some (((p.Nb.length:Nat):Int),1)) _=_;rw [e,Qq];simp only;rw [(l1 k hk acc (by simp at hl;omega)).1,Qq,XE k (by omega)];rfl) (fun acc=>by rfl)).1
  unfold Qdd;rw [Qq];have l3:loop (Qkj ⟨p,x⟩ (some ⟨p,x⟩)) (0,([]:List Ns))=_:=l2;rw [l3,Qq];simp only [Xj,List.nil_append];unfold JS;simp only [Qys]
end Go.Gw

end
section
set_option maxRecDepth 4096
namespace Go.Gw
open Go
attribute [local irreducible] loop
theorem QNf {p:Ng} {x:Nh} {e:Nl} (hk:e.Kind=1) (h:Yt p x e=0) :
  (XC x e).Nd.length≠0/\(X5 p e).Na.head?=(XC x e).Nd.getLast?/\(∀ s∈(X5 p e).Na.drop 1,YV x s=false)/\YG p x.Nc (X5 p e) (X5 p e).Na=true:=by
 unfold Yt at h;rw [if_neg (by omega),if_neg (by omega)] at h;by_cases hc:(XC x e).Nd.length=0
 ·rw [if_pos hc] at h;cases h
 rw [if_neg hc,if_pos hk] at h;by_cases h3:(X5 p e).Na.head?=(XC x e).Nd.getLast?
 ·rw [if_pos h3] at h;cases hb:((X5 p e).Na.drop 1).any (YV x) with
  | true=>rw [hb] at h;cases h
  | false =>
   rw [hb] at h;cases hl:YG p x.Nc (X5 p e) (X5 p e).Na with
   | false=>rw [hl] at h;cases h
   | true =>
    rw [List.any_eq_false] at hb;exact ⟨hc,h3,fun s hs=>by have:=hb s hs;simpa using this,rfl⟩
 ·rw [if_neg h3] at h;cases h
theorem Qsl {x:Nh} {a:Nat} {t:Nm} {e:Nl}:XC ⟨x.Nc,x.Nb.set a t,x.Nf⟩ e=if a=e.A.toNat/\a < x.Nb.length then t else XC x e:=by
 unfold XC;simp only [List.getElem?_set];by_cases h:a=e.A.toNat
 ·subst h;by_cases h2:e.A.toNat < x.Nb.length
  ·simp [h2]
  ·simp [h2]
 ·simp [h]
end Go.Gw

end
section
set_option maxRecDepth 4096
namespace Go.Gw
open Go
attribute [local irreducible] loop
def ZO (p:Ng) (x:Nh) (e:Nl) (k:Nat):Nh:=⟨x.Nc,x.Nb.set e.A.toNat ⟨(XC x e).Nd++((X5 p e).Na.drop 1).take k,(XC x e).Nk⟩,x.Nf⟩
def Qcc (e:Nl):Nl:=⟨5,e.A,0⟩
theorem Qto {p:Ng} {x:Nh} {e:Nl} (ke:e.Kind=1):ZO p x e ((X5 p e).Na.length - 1)=XX p x e:=by
 unfold ZO XX trX;rw [if_neg (by omega),if_neg (by omega),if_pos ke,List.take_of_length_le (by simp)]
theorem QBd {p:Ng} {x:Nh} {e:Nl} (ha:e.A.toNat < x.Nb.length):ZO p x e 0=x:=by
 unfold ZO;rw [Qaw ha,List.take_zero,List.append_nil];cases x with
 | mk sw tr c =>
  simp only [Nh.mk.injEq,true_and,and_true];exact List.set_getElem_self ha
theorem QBe {p:Ng} (hp:PlantOk p) {x:Nh} (h:StateOk p x) {e:Nl} (ke:e.Kind=1) (ee:Ym p e=0) {k:Nat} (hk:k+1<=(X5 p e).Na.length - 1) (hu:1<=(XC x e).Nk/\(XC x e).Nk<=(XC x e).Nd.length) :
  Ym p (Qcc e)=0/\Yt p (ZO p x e (k+1)) (Qcc e)=0/\XX p (ZO p x e (k+1)) (Qcc e)=ZO p x e k:=by
 obtain ⟨a0,a1,_,_,_⟩:=Qak ee (by omega);have ha:e.A.toNat < x.Nb.length:=by rw [h.tr];exact a1
 have hA:(Qcc e).A=e.A:=rfl;have hl:(((X5 p e).Na.drop 1).take (k+1)).length=k+1:=by simp;omega
 have ht:XC (ZO p x e (k+1)) (Qcc e)=⟨(XC x e).Nd++((X5 p e).Na.drop 1).take (k+1),(XC x e).Nk⟩:=by
  unfold ZO;rw [Qsl,if_pos ⟨by rw [hA],ha⟩]
 refine ⟨?_,?_,?_⟩
 ·unfold Ym Qcc Z8;simp only;rw [if_neg (by omega),if_neg (by omega),decide_eq_true a0,decide_eq_true (show e.A<=(p.Nb.length:Int) - 1 by omega)];rfl
 ·unfold Yt;rw [ht];simp only [Qcc];rw [if_neg (by omega),if_neg (by omega),if_neg (by simp only [List.length_append,hl];omega),if_neg (by omega),if_neg (by omega),if_pos (by simp),if_pos (by simp only [List.length_append,hl];omega)]
 ·unfold XX trX;rw [ht];simp only [Qcc];rw [if_neg (by omega),if_neg (by omega),if_neg (by omega),if_neg (by omega),if_neg (by omega),if_pos trivial];unfold ZO;simp only [List.set_set,Nh.mk.injEq,true_and,and_true];congr 2;simp only [List.length_append,hl];rw [show (XC x e).Nd.length+(k+1) - 1=(XC x e).Nd.length+k by omega,List.take_length_add_append,List.take_take,Nat.min_eq_left (by omega)]
theorem Qza {p:Ng} (hp:PlantOk p) {x:Nh} (h:StateOk p x) {w:Nl} (ew:Ym p w=0) (sw:Yt p x w=0) (hk:w.Kind < 4) {s:Int} (hs:YV x s=true):YV (XX p x w) s=true:=by
 have hk0:=Qgg ew;unfold XX;by_cases h2:w.Kind=2
 ·rw [if_pos h2];exact hs
 rw [if_neg h2];obtain ⟨a0,a1,_,_,_⟩:=Qak ew h2;have ha:w.A.toNat < x.Nb.length:=by rw [h.tr];exact a1
 obtain ⟨t,ht,hm⟩:=takenB_yes.1 hs;obtain ⟨i,hi,rfl⟩:=List.getElem_of_mem ht;by_cases hia:w.A.toNat=i
 ·subst hia;refine takenB_yes.2 ⟨trX p (XC x w) w,List.mem_iff_getElem.2 ⟨w.A.toNat,by simpa using hi,by simp⟩,?_⟩;rw [Qaw hi];unfold trX;by_cases h0:w.Kind=0
  ·unfold Yt at sw;rw [if_neg h2,if_pos h0,Qaw hi] at sw;by_cases hc:x.Nb[w.A.toNat].Nd.length=0
   ·rw [List.length_eq_zero_iff.1 hc] at hm;cases hm
   ·rw [if_neg hc] at sw;cases sw
  rw [if_neg h0];by_cases h1:w.Kind=1
  ·rw [if_pos h1];exact List.mem_append_left _ hm
  rw [if_neg h1,if_pos (by omega)];exact hm
 ·refine takenB_yes.2 ⟨x.Nb[i],List.mem_iff_getElem.2 ⟨i,by simpa using hi,by simp [List.getElem_set,hia]⟩,hm⟩
theorem Qua {p:Ng} (hp:PlantOk p) {x:Nh} (h:StateOk p x) {v w:Nl} (kv:v.Kind=0\/v.Kind=1) (ev:Ym p v=0) (ew:Ym p w=0) (sw:Yt p x w=0) (hk:w.Kind < 4) (hw:w.Kind=2\/w.A≠v.A) (hv:Yt p x v=17):Yt p (XX p x w) v=17:=by
 have ht:XC (XX p x w) v=XC x v:=by
  unfold XX;by_cases h2:w.Kind=2
  ·rw [if_pos h2];rfl
  ·rw [if_neg h2,Qsl,if_neg];obtain ⟨a0,_⟩:=Qak ew h2;obtain ⟨b0,_⟩:=Qak ev (by omega);intro hh;have:=hh.1;omega
 unfold Yt at hv ⊢;rw [ht];rcases kv with k0 | k1
 ·rw [if_neg (by omega),if_pos k0] at hv ⊢;by_cases hc:(XC x v).Nd.length=0
  ·rw [if_pos hc] at hv ⊢;cases hb:YV x v.B with
   | false=>rw [hb] at hv;cases hv
   | true=>rw [Qza hp h ew sw hk hb];rfl
  ·rw [if_neg hc] at hv;cases hv
 ·rw [if_neg (by omega),if_neg (by omega)] at hv ⊢;by_cases hc:(XC x v).Nd.length=0
  ·rw [if_pos hc] at hv;cases hv
  rw [if_neg hc,if_pos k1] at hv ⊢;by_cases h3:(X5 p v).Na.head?=(XC x v).Nd.getLast?
  ·rw [if_pos h3] at hv ⊢;cases hb:((X5 p v).Na.drop 1).any (YV x) with
   | false =>
    rw [hb] at hv;cases hl:YG p x.Nc (X5 p v) (X5 p v).Na with
    | true=>rw [hl] at hv;cases hv
    | false=>rw [hl] at hv;cases hv
   | true =>
    rw [List.any_eq_true] at hb;obtain ⟨s,hs,hb⟩:=hb;rw [show ((X5 p v).Na.drop 1).any (YV (XX p x w))=true from List.any_eq_true.2 ⟨s,hs,Qza hp h ew sw hk hb⟩];rfl
  ·rw [if_neg h3] at hv;cases hv
def Qau (e:Nl):Nl:=⟨6,e.A,0⟩
theorem QQf {p:Ng} {x:Nh} (h:StateOk p x) {e:Nl} (ke:e.Kind=0) (ee:Ym p e=0) (se:Yt p x e=0):Ym p (Qau e)=0/\Yt p (XX p x e) (Qau e)=0/\XX p (XX p x e) (Qau e)=x:=by
 obtain ⟨a0,a1,_,_,_⟩:=Qak ee (by omega);have ha:e.A.toNat < x.Nb.length:=by rw [h.tr];exact a1
 have hc:(XC x e).Nd.length=0:=by
  unfold Yt at se;rw [if_neg (by omega),if_pos ke] at se;by_cases hc:(XC x e).Nd.length=0
  ·exact hc
  ·rw [if_neg hc] at se;cases se
 have ht:XC (XX p x e) (Qau e)=⟨[e.B],1⟩:=by
  unfold XX;rw [if_neg (by omega),Qsl,if_pos ⟨rfl,ha⟩];unfold trX;rw [if_pos ke]
 have h0:XC x e=⟨[],0⟩:=by
  have hu:=h.un (XC x e) (by rw [Qaw ha];exact List.getElem_mem ha);generalize XC x e=t at hc hu;cases t with
  | mk c u =>
   have hc2:c=[]:=List.length_eq_zero_iff.1 hc;subst hc2;rcases hu with ⟨_,hu⟩ | ⟨h1,h2⟩
   ·simp only at hu;rw [hu]
   ·have h1':1<=u:=h1;have h2':u<=((0:Nat):Int):=h2;omega
 refine ⟨?_,?_,?_⟩
 ·unfold Ym Qau Z8;simp only;rw [if_neg (by omega),if_neg (by omega),decide_eq_true a0,decide_eq_true (show e.A<=(p.Nb.length:Int) - 1 by omega)];rfl
 ·unfold Yt;rw [ht];rfl
 ·have e1:trX p (XC (XX p x e) (Qau e)) (Qau e)=XC x e:=by rw [h0];rfl
  have e2:XX p (XX p x e) (Qau e)=⟨(XX p x e).Nc,(XX p x e).Nb.set e.A.toNat (trX p (XC (XX p x e) (Qau e)) (Qau e)),(XX p x e).Nf⟩:=rfl;rw [e2,e1,Qaw ha];unfold XX;rw [if_neg (by omega)];cases x with
  | mk sw tr c =>
   simp only [Nh.mk.injEq,true_and,and_true,List.set_set];exact List.set_getElem_self ha
end Go.Gw

end
