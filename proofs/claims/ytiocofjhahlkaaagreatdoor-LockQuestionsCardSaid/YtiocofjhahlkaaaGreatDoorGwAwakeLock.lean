/- Laws of the walk. Condition: each theorem says its own. -/
import Derived.Test.YtiocofjhahlkaaaGreatDoorGwTopA
import Derived.Test.YtiocofjhahlkaaaGreatDoorGwLib21
set_option linter.unusedVariables false
set_option linter.unusedSimpArgs false
set_option linter.unusedSectionVars false
section
set_option maxRecDepth 100000
namespace Go.Gw
open Go
theorem QAn:Qnv=some true:=by decide +kernel
end Go.Gw

end
section
set_option linter.unusedSectionVars false
namespace Go.Gw
section
variable {α β γ σ ρ:Type}
def XZ (p:α->Bool) (res:Nat->α->ρ):Nat->List α->ρ⊕Unit
 | _,[]=>.inr ()
 | k,x::xs=>if p x then .inl (res k x) else XZ p res (k+1) xs
theorem YJ {step:Int->Option (Int⊕(ρ⊕Unit))} (xs:List α) (p:α->Bool) (res:Nat->α->ρ)
  (hs:∀ k (hk:k < xs.length),step (k:Int)=(bif p xs[k] then some (.inr (.inl (res k xs[k]))) else some (.inl ((k+1:Nat):Int))))
  (he:step (xs.length:Int)=some (.inr (.inr ()))):loop step 0=some (XZ p res 0 xs):=by
 have key:∀ j k,j+k=xs.length->loop step (k:Int)=some (XZ p res k (xs.drop k)):=by
  intro j
  induction j with
  | zero =>
   intro k hk;obtain rfl:k=xs.length:=by omega
   rw [List.drop_length];exact Qfq he
  | succ j ih =>
   intro k hk;have hlt:k < xs.length:=by omega
   rw [List.drop_eq_getElem_cons hlt];have:=hs k hlt;cases hp:p xs[k] with
   | true=>rw [hp] at this;simp only [XZ,hp,if_true];exact Qfq this
   | false=>rw [hp] at this;simp only [XZ,hp];rw [Qjv this];exact ih (k+1) (by omega)
 have:=key xs.length 0 (by omega);simpa using this

def JM (f:Nat->γ->α->γ):Nat->γ->List α->γ
 | _,a,[]=>a
 | k,a,x::xs=>JM f (k+1) (f k a x) xs
theorem Qux {step:σ->Option (σ⊕β)} (xs:List α) (f:Nat->γ->α->γ) (S:γ->Nat->σ) (o:γ->β) (Inv:γ->Nat->Prop) (a0:γ) (h0:Inv a0 0)
  (hs:∀ k (hk:k < xs.length) a,Inv a k->step (S a k)=some (.inl (S (f k a xs[k]) (k+1)))/\Inv (f k a xs[k]) (k+1))
  (he:∀ a,Inv a xs.length->step (S a xs.length)=some (.inr (o a))):loop step (S a0 0)=some (o (JM f 0 a0 xs))/\Inv (JM f 0 a0 xs) xs.length:=by
 have key:∀ j k a,j+k=xs.length->Inv a k->loop step (S a k)=some (o (JM f k a (xs.drop k)))/\Inv (JM f k a (xs.drop k)) xs.length:=by
  intro j
  induction j with
  | zero =>
   intro k a hk hI;obtain rfl:k=xs.length:=by omega
   rw [List.drop_length];exact ⟨Qfq (he a hI),hI⟩
  | succ j ih =>
   intro k a hk hI;have hlt:k < xs.length:=by omega
   rw [List.drop_eq_getElem_cons hlt];have:=hs k hlt a hI;rw [Qjv this.1];exact ih (k+1) _ (by omega) this.2
 have:=key xs.length 0 a0 (by omega) h0;simpa using this

theorem XE (k:Nat) (h:k < 4611686018427387904):w64 ((k:Int)+1)=((k+1:Nat):Int):=by rw [Jc (by omega)];omega
theorem XK {k n:Nat} (h:k < n):decide ((k:Int) < (n:Int))=true:=by simp;omega
theorem XM (n:Nat):decide ((n:Int) < (n:Int))=false:=by simp
end
end Go.Gw

end
section
set_option maxRecDepth 4096
namespace Go.Gw
open Go
def Zv:List Int->Int
 | []=>0
 | x::xs=>if x=0 then Zv xs else x
theorem ZZ (l:List Int) (hl:l.length < 1073741824):Y8 l=some (Zv l):=by
  unfold Y8;rw [YJ l (fun x=>!decide (x=0)) (fun _ x=>x)]
  · have key : ∀ (l : List Int) k, (Xn (XZ (fun x => !decide (x = 0)) (fun _ x => x) k l) fun (_ : Unit) => some 0) = some (Zv l) := by
      intro l
      induction l with
      | nil=>intro k;rfl
      | cons x xs ih =>
        intro k;by_cases h:x=0
        · simp [XZ,Zv,h];exact ih _
        · simp [XZ,Zv,h,Xn]
    simpa using key l 0
  · intro k hk;unfold Qof;rw [XK hk,Xu hk,XE k (by omega)];rfl
  · unfold Qof;rw [XM];rfl
theorem Y7 (b:Bool) (e:Int):XX b e=some (bif b then 0 else e):=by cases b<;>rfl
theorem Qri (n lo hi:Int):Z0 n lo hi=some (decide (lo<=n)&&decide (n<=hi)):=rfl
end Go.Gw

end
section
set_option maxRecDepth 4096
namespace Go.Gw
open Go
def JY (n:Int):Bool:=decide (0<=n)&&decide (n<=250)
end Go.Gw

end
section
set_option maxRecDepth 4096
namespace Go.Gw
open Go
attribute [local irreducible] loop
end Go.Gw

end
section
set_option maxRecDepth 4096
namespace Go.Gw
open Go
attribute [local irreducible] loop
end Go.Gw

end
section
set_option maxRecDepth 4096
namespace Go.Gw
open Go
attribute [local irreducible] loop
theorem Qcl {α:Type} (p:α->Bool):∀ (l:List α) (k:Nat),(Xn (β:=Int) (XZ p (fun k _=>(k:Int)) k l) fun (_:Unit)=>some (-1))=some (match XZ p (fun k _=>(k:Int)) k l with | .inl i=>i | .inr _=>-1)
 | l,k=>by cases XZ p (fun k _=>(k:Int)) k l<;>rfl
theorem Qgv {α:Type} (p:α->Bool):∀ (l:List α) (k:Nat),decide (0<=(match XZ p (fun k _=>(k:Int)) k l with | .inl i=>i | .inr _=>(-1:Int)))=l.any p
 | [],k=>by simp [XZ]
 | x::xs,k=>by
  by_cases h:p x=true
  ·simp [XZ,h]
  ·simp only [XZ,h,List.any_cons];have:=Qgv p xs (k+1);simpa [h] using this
theorem Zz {α ρ:Type} {p:α->Bool} {res:Nat->α->ρ}:∀ (l:List α) (k:Nat),(XZ p res k l=.inr ()/\l.any p=false)\/∃ j x,XZ p res k l=.inl (res j x)/\p x=true/\l.any p=true
 | [],k=>.inl ⟨rfl,rfl⟩
 | x::xs,k=>by
  by_cases h:p x=true
  ·exact .inr ⟨k,x,by simp [XZ,h],h,by simp [h]⟩
  ·rcases Zz xs (k+1) (p:=p) (res:=res) with ⟨h1,h2⟩ | ⟨j,y,h1,h2,h3⟩
   ·exact .inl ⟨by simp [XZ,h,h1],by simp [h,h2]⟩
   ·exact .inr ⟨j,y,by simp [XZ,h,h1],h2,by simp [h3]⟩
def Xx (f:Nat->Int) (n:Nat):Option Nat:=(List.range n).find? fun i=>decide (f i≠0)
theorem Qik (f:Nat->Int) (n:Nat):(Xx f n=none/\∀ j,j < n->f j=0)\/∃ i,Xx f n=some i/\i < n/\f i≠0/\∀ j,j < i->f j=0:=by
 cases h:Xx f n with
 | none =>
  refine .inl ⟨rfl,fun j hj=>?_⟩;have:=List.find?_eq_none.1 h j (List.mem_range.2 hj);simpa using this
 | some i =>
  right;obtain ⟨h1,h2,h3⟩:=List.find?_range_eq_some.1 h;exact ⟨i,rfl,List.mem_range.1 h2,by simpa using h1,fun j hj=>by have:=h3 j hj;simpa using this⟩
theorem JF {σ ρ μ:Type} {step:σ->Option (σ⊕(ρ⊕μ))} (S:Nat->σ) (n:Nat) (f:Nat->Int) (res:Nat->Int->ρ) (o:μ)
  (hs:∀ k,k < n->(∀ j,j < k->f j=0)->step (S k)=if f k=0 then some (.inl (S (k+1))) else some (.inr (.inl (res k (f k))))) (he:(∀ j,j < n->f j=0)->step (S n)=some (.inr (.inr o))) :
  loop step (S 0)=some (match Xx f n with | some i=>.inl (res i (f i)) | none=>.inr o):=by
 rcases Qik f n with ⟨h1,h2⟩ | ⟨i,h1,h2,h3,h4⟩
 ·rw [h1];exact Qju S n (fun k hk=>by rw [hs k hk fun j hj=>h2 j (by omega),if_pos (h2 k hk)]) (he h2)
 ·rw [h1];exact Qju S i (fun k hk=>by rw [hs k (by omega) fun j hj=>h4 j (by omega),if_pos (h4 k hk)]) (by rw [hs i h2 h4,if_neg h3])
/-! ### Names -/
def Qeq (q:Int×Nat):Bool:=(!(((decide (97<=q.1))&&(decide (q.1<=122)))||((decide (65<=q.1))&&(decide (q.1<=90)))))&&((decide ((q.2:Int)=0))||((!decide (q.1=45))&&((decide (q.1 < 48))||(decide (57 < q.1)))))
def bi (s:ByteArray):List Int:=bl s
theorem Qia (s:ByteArray):(bi s).length=s.size:=JK s
theorem Qtr {s:ByteArray} {k:Nat} (h:k < (bi s).length):idx (α:=Int) (bl s) (k:Int)=some (bi s)[k]:=Xu (xs:=bi s) h
def JP (s:ByteArray):Bool:=decide (1<=s.size)&&(decide (s.size<=12)&&!((bi s).zipIdx.any Qeq))
theorem Qxp (s:ByteArray):s=ByteArray.mk #[]↔s.size=0:=by
 constructor
 ·intro h;subst h;rfl
 ·intro h;cases s with
  | mk d =>
   congr 1;exact Array.eq_empty_of_size_eq_zero h
theorem Qmo (s:ByteArray):Qcz s=some (JP s):=by
  unfold Qcz JP;have hlen:(bi s).zipIdx.length=s.size:=by rw [List.length_zipIdx,Qia]
  by_cases h:1<=s.size/\s.size<=12
  · have : (decide ((s.size : Int) < 1) || decide (12 < (s.size : Int))) = false := by
      rw [decide_eq_false (by omega),decide_eq_false (by omega)];rfl
    rw [this,cond_false,YJ (bi s).zipIdx Qeq (fun _ _=>false),QB]
    · rcases Zz (p:=Qeq) (res:=fun _ _=>false) (bi s).zipIdx 0 with ⟨k1,k2⟩ | ⟨j,x,k1,k2,k3⟩
      · rw [k1,k2];simp [h,Xn]
      · rw [k1,k3];simp [Xn]
    · intro k hk;rw [hlen] at hk;unfold Qmt;rw [XK hk,cond_true,Qtr (show k < (bi s).length by rw [Qia];exact hk),QB,XE k (by omega)];simp only [List.getElem_zipIdx,Nat.zero_add];rfl
    · rw [hlen];unfold Qmt;rw [XM];rfl
  · have : (decide ((s.size : Int) < 1) || decide (12 < (s.size : Int))) = true := by
      by_cases h1:s.size < 1
      · rw [decide_eq_true (by omega)];rfl
      · rw [decide_eq_true (p:=12 < (s.size:Int)) (by omega)];simp
    rw [this,cond_true];congr 1;by_cases h1:1<=s.size
    · rw [decide_eq_false (p:=s.size<=12) (by omega)];simp
    · rw [decide_eq_false h1];rfl
theorem Qnq (s:ByteArray) (hs:s.size<=1000):Qdk s=some (JP s):=by
 unfold Qdk JP;have hlen:(bi s).zipIdx.length=s.size:=by rw [List.length_zipIdx,Qia]
 have ht:tob s=some (bl s):=by unfold tob;rw [if_pos (by omega)]
 rw [ht,QB,YJ (bi s).zipIdx Qeq (fun _ _=>false),QB]
 ·rcases Zz (p:=Qeq) (res:=fun _ _=>false) (bi s).zipIdx 0 with ⟨k1,k2⟩ | ⟨j,x,k1,k2,k3⟩
  ·rw [k1,k2];simp only [Xn,Bool.not_false,Bool.and_true,Option.some.injEq];by_cases h0:s.size=0
   ·rw [decide_eq_true ((Qxp s).2 h0),decide_eq_false (show ¬ 1<=s.size by omega)];rfl
   ·rw [decide_eq_false (fun e=>h0 ((Qxp s).1 e)),decide_eq_true (show 1<=s.size by omega)];simp only [Bool.not_false,Bool.true_and];by_cases h1:s.size<=12
    ·rw [decide_eq_true h1,decide_eq_true (by omega)]
    ·rw [decide_eq_false h1,decide_eq_false (by omega)]
  ·rw [k1,k3];simp [Xn]
 ·intro k hk;rw [hlen] at hk;have hk2:k < (bl s).length:=by rw [JK];exact hk
  unfold Qoi;rw [XK hk2,cond_true,Qtr (show k < (bi s).length by rw [Qia];exact hk),QB,XE k (by omega)];simp only [List.getElem_zipIdx,Nat.zero_add];rfl
 ·rw [hlen,show (s.size:Int)=((bl s).length:Int) by rw [JK]];unfold Qoi;rw [XM];rfl
theorem Qda (n lo hi:Int):Jk n lo hi=some (decide (lo<=n)&&decide (n<=hi)):=rfl
theorem Qtn (a b:Int):Zv [a,b]=if a≠0 then a else b:=by
 unfold Zv Zv Zv;by_cases h:a=0<;>by_cases h2:b=0<;>simp [h,h2]
theorem Qfc (a b c:Int):Zv [a,b,c]=if a≠0 then a else if b≠0 then b else c:=by
 unfold Zv Zv Zv Zv;by_cases h:a=0<;>by_cases h2:b=0<;>by_cases h3:c=0<;>simp [h,h2,h3]
theorem Qtd {α:Type} [DecidableEq α]:∀ (a b:List α) (hl:a.length=b.length) (k:Nat),(Xn (XZ (fun (x:α×α)=>!decide (x.1=x.2)) (fun _ _=>false) k (a.zip b)) fun (_:Unit)=>some true)=some (decide (a=b))
 | [],[],_,k=>by simp [XZ,Xn]
 | [],_::_,hl,_=>by simp at hl
 | _::_,[],hl,_=>by simp at hl
 | x::a,y::b,hl,k=>by
  by_cases hxy:x=y
  ·subst hxy;have:=Qtd a b (by simpa using hl) (k+1);simp only [List.zip_cons_cons,XZ];simpa using this
  ·simp [XZ,hxy,Xn]
theorem Qzn {α:Type} {a b:List α} (hl:a.length=b.length):(a.zip b).length=a.length:=by simp [hl]
theorem Zw {α:Type} (l:List α) (f:α->Int) (k:Nat) (hk:k < l.length):(l[k]?.map f).getD 0=f l[k]:=by rw [List.getElem?_eq_getElem hk];rfl
theorem Qyi {α β:Type} (l:List α) (f:α->β) (k:Nat) (hk:k < l.length):(l.take k).map f++[f l[k]]=(l.take (k+1)).map f:=by
 rw [List.take_add_one,List.getElem?_eq_getElem hk,List.map_append];rfl
theorem Qmd {α β:Type} {a:List α} {b:List β} (hl:a.length=b.length):(a.zip b).length=a.length:=by simp [hl]
theorem Qdc {α:Type} {xs:List α} {k:Nat} (h:k<=xs.length):cut xs 0 (k:Int)=some (xs.take k):=by
 unfold cut;rw [if_pos (by omega),Int.toNat_natCast];rfl
theorem Qsb {α:Type} [DecidableEq α] (l:List α) (v:α):(l.any fun x=>decide (v=x))=decide (v∈l):=by
 rw [Bool.eq_iff_iff];simp
theorem Qsc {α:Type} [DecidableEq α] (l:List α) (v:α):(l.any fun x=>decide (x=v))=decide (v∈l):=by
 rw [Bool.eq_iff_iff];simp
def JO {α:Type} (p:α->Bool) (l:List α):Int:=match XZ p (fun k _=>(k:Int)) 0 l with | .inl i=>i | .inr _=>(-1:Int)
theorem Qnp {α:Type} (p:α->Bool) (l:List α):decide (0<=JO p l)=l.any p:=Qgv p l 0
theorem Qtx (l:List Int) (v:Int) (hl:l.length < 1000000):Qgu l v=some (JO (fun x=>decide (v=x)) l):=by
 unfold Qgu JO;rw [YJ l (fun x=>decide (v=x)) (fun k _=>(k:Int)),QB,Qcl]
 ·intro k hk;unfold Qqs;rw [XK hk,Xu hk,XE k (by omega)];rfl
 ·unfold Qqs;rw [XM];rfl
theorem Qdb (l:List Int) (v:Int) (hl:l.length < 1000000):J7 l v=some (decide (v∈l)):=by
 unfold J7;rw [Qtx l v hl,QB,Qnp,Qsb]
end Go.Gw

end
section
set_option maxRecDepth 4096
namespace Go.Gw
open Go
attribute [local irreducible] loop
def Zh (s:ByteArray) (others:List ByteArray):Int:=bif JP s then (bif Yo others s then 5 else 0) else 4
def YZ (l:List ByteArray) (k:Nat):Int:=(l[k]?.map fun s=>Zh s (l.take k)).getD 0
def X9 (p:LockPlant) (n:Int):Bool:=decide (0<=n)&&decide (n<=(p.Sections.length:Int) - 1)
def swX (p:LockPlant) (k:Nat) (s:LockSwitch):Int:=bif X9 p s.Section then (bif (p.Switches.take k).any (fun o=>decide (o.Section=s.Section)) then 26 else 0) else 6
def swE (p:LockPlant) (k:Nat) (s:LockSwitch):Int:=if Zh s.Name ((p.Switches.take k).map (·.Name))=0 then swX p k s else Zh s.Name ((p.Switches.take k).map (·.Name))
def Zj (p:LockPlant) (k:Nat):Int:=(p.Switches[k]?.map (swE p k)).getD 0
def rsE (p:LockPlant) (r:LockRoute) (k:Nat) (s:Int):Int:=bif X9 p s then (bif decide (s∈r.Sections.take k) then 26 else 0) else 6
def Z6 (p:LockPlant) (r:LockRoute) (k:Nat):Int:=(r.Sections[k]?.map (rsE p r k)).getD 0
def JQ (r:LockRoute) (q:Int×LockSwitch):Bool:=bif decide (q.2.Section∈r.Sections) then !(decide (q.1=0)||decide (q.1=1)) else !decide (q.1=-1)
def rtX (p:LockPlant) (r:LockRoute):Int :=
 if r.Sections.length < 2 then 10 else if p.Sections.length < r.Sections.length then 8 else
 match Xx (Z6 p r) r.Sections.length with
 | some i=>Z6 p r i
 | none=>if r.Needs.length=p.Switches.length then (bif (r.Needs.zip p.Switches).any (JQ r) then 2 else 0) else 10
def rtE (p:LockPlant) (k:Nat) (r:LockRoute):Int:=if Zh r.Name ((p.Routes.take k).map (·.Name))=0 then rtX p r else Zh r.Name ((p.Routes.take k).map (·.Name))
def Zi (p:LockPlant) (k:Nat):Int:=(p.Routes[k]?.map (rtE p k)).getD 0
def Z4 (p:LockPlant):LockMark×Int :=
 if p.Sections.length=0\/p.Trains.length=0 then (LockMark.mk 0 0,10) else if 8 < p.Sections.length\/3 < p.Trains.length\/4 < p.Switches.length\/10 < p.Routes.length then (LockMark.mk 0 0,8) else
 match Xx (YZ p.Sections) p.Sections.length with
 | some i=>(LockMark.mk 1 i,YZ p.Sections i)
 | none=>match Xx (YZ p.Trains) p.Trains.length with
  | some i=>(LockMark.mk 2 i,YZ p.Trains i)
  | none=>match Xx (Zj p) p.Switches.length with
   | some i=>(LockMark.mk 3 i,Zj p i)
   | none=>match Xx (Zi p) p.Routes.length with
    | some i=>(LockMark.mk 4 i,Zi p i)
    | none=>(LockMark.mk 0 0,0)
structure PlantS (p:LockPlant):Prop where
 se:p.Sections.length < 1000
 tr:p.Trains.length < 1000
 sw:p.Switches.length < 1000
 ro:p.Routes.length < 1000
 sn:∀ s∈p.Sections,s.size<=1000
 tn:∀ s∈p.Trains,s.size<=1000
 wn:∀ s∈p.Switches,s.Name.size<=1000
 rn:∀ r∈p.Routes,r.Name.size<=1000/\r.Sections.length < 1000/\r.Needs.length < 1000
theorem Qnn {α:Type} (l:List α) (f:α->ByteArray) (k:Nat) (hk:k < l.length) (h:Yo ((l.take k).map f) (f l[k])=false):ZG ((l.take k).map f) (f l[k])=(l.take (k+1)).map f:=by
 unfold ZG;rw [h,if_neg (by simp),Qyi l f k hk]
theorem Qow (s:ByteArray) (others:List ByteArray):Zv [bif JP s then 0 else 4,bif !(Yo others s) then 0 else 5]=Zh s others:=by
 unfold Zh;cases JP s<;>cases Yo others s<;>rfl
theorem Qox {s:ByteArray} {others:List ByteArray} (h:Zh s others=0):Yo others s=false:=by
 unfold Zh at h;cases h1:Yo others s with
 | false=>rfl
 | true=>rw [h1] at h;cases h2:JP s<;>rw [h2] at h<;>cases h
theorem QBj {n m:Int} (h:n≠m):decide (n=m)=false:=decide_eq_false h
theorem Qve (l:List ByteArray) (mark:Int) (hl:l.length < 1000) (hn:∀ s∈l,s.size<=1000):Qfo mark l=some (match Xx (YZ l) l.length with | some i=>(LockMark.mk mark i,YZ l i) | none=>(LockMark.mk 0 0,0)):=by
 unfold Qfo;have key:loop (Qfn l mark) (0,[])=some (match Xx (YZ l) l.length with | some i=>.inl (LockMark.mk mark i,YZ l i) | none=>.inr ()):=by
  refine JF (step:=Qfn l mark) (fun k=>((k:Int),(l.take k).map id)) l.length (YZ l) (fun i e=>(LockMark.mk mark i,e)) () (fun k hk _=>?_) (fun _=>?_)
  ·have hs:YZ l k=Zh l[k] (l.take k):=Zw _ _ _ hk;have hi:=fun h=>Qnn l id k hk h
   simp only [List.map_id,id_eq] at hi ⊢;rw [hs];unfold Qfn;simp only [XK hk,cond_true,Xu hk,QB];rw [show Qok l[k]=some l[k] from rfl,QB,Qnq _ (hn _ (List.getElem_mem hk)),QB];simp only [Y7,QB];rw [ZZ _ (by simp),QB,Qow];by_cases h:Zh l[k] (l.take k)=0
   ·rw [if_pos h,h,hi (Qox h),XE k (by omega)];rfl
   ·rw [if_neg h,QBj h];rfl
  ·unfold Qfn;simp only [XM];rfl
 rw [key,QB];cases Xx (YZ l) l.length<;>rfl
theorem QAz (l:List LockSwitch) (s:LockSwitch) (hl:l.length < 1000):Qlg l s=some (l.any fun o=>decide (o.Section=s.Section)):=by
 unfold Qlg Qqm;rw [YJ l (fun o=>decide (o.Section=s.Section)) (fun k _=>(k:Int)),QB,Qcl,QB,Qgv]
 ·intro k hk;unfold Qql;rw [XK hk,Xu hk,XE k (by omega)];rfl
 ·unfold Qql;rw [XM];rfl
theorem Qxk (p:LockPlant) (hp:p.Sections.length < 1000) (n:Int):Z0 n 0 (w64 ((p.Sections.length:Int) - 1))=some (X9 p n):=by
 rw [Qri,Jc (by omega)];rfl
theorem QPr {p:LockPlant} (h:PlantS p) (k:Nat) (hk:k < p.Switches.length):Qjt p k=some (swX p k p.Switches[k]):=by
 have h1:=h.sw;unfold Qjt swX;rw [Xu hk,QB,Qdc (by omega),QB,QAz _ _ (by simp;omega),QB,Qxk p h.se,QB,Y7,QB,Y7,QB,ZZ _ (by simp),QB];cases X9 p p.Switches[k].Section<;>cases (p.Switches.take k).any (fun o=>decide (o.Section=p.Switches[k].Section))<;>rfl
theorem QPt {p:LockPlant} (h:PlantS p):Qjn 3 p.Switches p=some (match Xx (Zj p) p.Switches.length with | some i=>(LockMark.mk 3 i,Zj p i) | none=>(LockMark.mk 0 0,0)):=by
 have hl:=h.sw;unfold Qjn;have key:loop (Qfm p p.Switches 3) (0,[])=some (match Xx (Zj p) p.Switches.length with | some i=>.inl (LockMark.mk 3 i,Zj p i) | none=>.inr ()):=by
  refine JF (step:=Qfm p p.Switches 3) (fun k=>((k:Int),(p.Switches.take k).map (·.Name))) p.Switches.length (Zj p) (fun i e=>(LockMark.mk 3 i,e)) () (fun k hk _=>?_) (fun _=>?_)
  ·have hs:Zj p k=swE p k p.Switches[k]:=Zw _ _ _ hk;have hi:=fun h=>Qnn p.Switches (·.Name) k hk h
   rw [hs];unfold Qfm swE;simp only [XK hk,cond_true,Xu hk,QB];rw [show Qnz p.Switches[k]=some p.Switches[k].Name from rfl,QB,Qnq _ (h.wn _ (List.getElem_mem hk)),QB];simp only [Y7,QB];rw [ZZ _ (by simp),QB,Qow,show Qja (k:Int) p=some (swX p k p.Switches[k]) by unfold Qja;rw [QPr h k hk];rfl];by_cases h1:Zh p.Switches[k].Name ((p.Switches.take k).map (·.Name))=0
   ·simp only [h1,hi (Qox h1),if_true,decide_true,Bool.true_and,cond_true,QB,XE k (show k < 4611686018427387904 by omega)];by_cases h2:swX p k p.Switches[k]=0
    ·simp [h2]
    ·simp [h2]
   ·simp only [h1,if_false,decide_false,Bool.false_and,cond_false,QB,Bool.not_false,cond_true]
  ·unfold Qfm;simp only [XM];rfl
 rw [key,QB];cases Xx (Zj p) p.Switches.length<;>rfl
theorem QMv {p:LockPlant} (h:PlantS p) (r:LockRoute) (hr:r.Sections.length < 1000):loop (Qjq r p) 0=some (match Xx (Z6 p r) r.Sections.length with | some i=>.inl (Z6 p r i) | none=>.inr ()) :=
 JF (fun k=>(k:Int)) r.Sections.length (Z6 p r) (fun _ e=>e) () (fun k hk _=>by
  have hs:Z6 p r k=rsE p r k r.Sections[k]:=Zw _ _ _ hk;rw [hs];unfold Qjq rsE;rw [XK hk,cond_true,Xu hk,QB,Qdc (by omega),QB,Qxk p h.se,QB,Y7,QB,Qdb _ _ (by simp;omega),QB,Y7,QB,ZZ _ (by simp),QB,XE k (by omega)];cases X9 p r.Sections[k]<;>cases decide (r.Sections[k]∈r.Sections.take k)<;>rfl) (fun _=>by
  unfold Qjq;rw [XM];rfl)
theorem QMu {p:LockPlant} (r:LockRoute) (hr:r.Sections.length < 1000) (hn:r.Needs.length < 1000) (he:r.Needs.length=p.Switches.length):loop (Qjr r p) 0=some (XZ (JQ r) (fun _ _=>(2:Int)) 0 (r.Needs.zip p.Switches)) :=
 YJ (r.Needs.zip p.Switches) _ _ (fun k hk=>by
  rw [Qmd he] at hk;unfold Qjr;rw [XK hk,cond_true,Xu hk,QB,Xu (show k < p.Switches.length by omega),QB,Qdb _ _ (by omega),QB,XE k (by omega)];simp only [List.getElem_zip,JQ];rw [show Qfg r.Needs[k]=some (decide (r.Needs[k]=0)||decide (r.Needs[k]=1)) from rfl];cases decide (p.Switches[k].Section∈r.Sections)<;>rfl) (by
  rw [Qmd he];unfold Qjr;rw [XM];rfl)
theorem QMy {p:LockPlant} (h:PlantS p) (k:Nat) (hk:k < p.Routes.length):Qjs p k=some (rtX p p.Routes[k]):=by
 obtain ⟨_,hr,hn⟩:=h.rn _ (List.getElem_mem hk);have h1:=h.se;have h2:=h.sw;unfold Qjs rtX;rw [Xu hk,QB,Y7,QB,Y7,QB,ZZ _ (by simp),QB];generalize p.Routes[k]=r at hr hn ⊢;by_cases h3:r.Sections.length < 2
 ·rw [if_pos h3,decide_eq_false (show ¬ (2<=(r.Sections.length:Int)) by omega)];rfl
 rw [if_neg h3,decide_eq_true (show 2<=(r.Sections.length:Int) by omega)];by_cases h4:p.Sections.length < r.Sections.length
 ·rw [if_pos h4,decide_eq_false (show ¬ ((r.Sections.length:Int)<=p.Sections.length) by omega)];rfl
 rw [if_neg h4,decide_eq_true (show (r.Sections.length:Int)<=p.Sections.length by omega),QMv h r hr];simp only [Zv,cond_true,if_true,decide_true,Bool.not_true,cond_false,QB];cases Xx (Z6 p r) r.Sections.length with
 | some i=>rfl
 | none =>
  simp only [Xn];by_cases h5:r.Needs.length=p.Switches.length
  ·rw [if_pos h5,decide_eq_true (by omega),Bool.not_true,cond_false,QMu r hr hn h5,QB];rcases Zz (p:=JQ r) (res:=fun _ _=>(2:Int)) (r.Needs.zip p.Switches) 0 with ⟨k1,k2⟩ | ⟨j,x,k1,k2,k3⟩
   ·rw [k1,k2];rfl
   ·rw [k1,k3];rfl
  ·rw [if_neg h5,decide_eq_false (by omega)];rfl
theorem QNl {p:LockPlant} (h:PlantS p):Qjm 4 p.Routes p=some (match Xx (Zi p) p.Routes.length with | some i=>(LockMark.mk 4 i,Zi p i) | none=>(LockMark.mk 0 0,0)):=by
 have hl:=h.ro;unfold Qjm;have key:loop (Qfl p p.Routes 4) (0,[])=some (match Xx (Zi p) p.Routes.length with | some i=>.inl (LockMark.mk 4 i,Zi p i) | none=>.inr ()):=by
  refine JF (step:=Qfl p p.Routes 4) (fun k=>((k:Int),(p.Routes.take k).map (·.Name))) p.Routes.length (Zi p) (fun i e=>(LockMark.mk 4 i,e)) () (fun k hk _=>?_) (fun _=>?_)
  ·have hs:Zi p k=rtE p k p.Routes[k]:=Zw _ _ _ hk;have hi:=fun h=>Qnn p.Routes (·.Name) k hk h
   rw [hs];unfold Qfl rtE;simp only [XK hk,cond_true,Xu hk,QB];rw [show Qob p.Routes[k]=some p.Routes[k].Name from rfl,QB,Qnq _ (h.rn _ (List.getElem_mem hk)).1,QB];simp only [Y7,QB];rw [ZZ _ (by simp),QB,Qow,show Qjb (k:Int) p=some (rtX p p.Routes[k]) by unfold Qjb;rw [QMy h k hk];rfl];by_cases h1:Zh p.Routes[k].Name ((p.Routes.take k).map (·.Name))=0
   ·simp only [h1,hi (Qox h1),if_true,decide_true,Bool.true_and,cond_true,QB,XE k (show k < 4611686018427387904 by omega)];by_cases h2:rtX p p.Routes[k]=0
    ·simp [h2]
    ·simp [h2]
   ·simp only [h1,if_false,decide_false,Bool.false_and,cond_false,QB,Bool.not_false,cond_true]
  ·unfold Qfl;simp only [XM];rfl
 rw [key,QB];cases Xx (Zi p) p.Routes.length<;>rfl
theorem QBa {p:LockPlant} (h:PlantS p):Qjc p=some (Z4 p):=by
  unfold Qjc Z4;rw [Y7,QB,Y7,QB,ZZ _ (by simp),QB];by_cases h1:p.Sections.length=0\/p.Trains.length=0
  · rw [if_pos h1, show (decide (0 < (p.Sections.length : Int)) && decide (0 < (p.Trains.length : Int))) = false by
      rcases h1 with h1 | h1
      · rw [decide_eq_false (show ¬ (0 < (p.Sections.length:Int)) by omega)];rfl
      · rw [decide_eq_false (show ¬ (0 < (p.Trains.length:Int)) by omega),Bool.and_false]]
    rfl
  rw [if_neg h1,decide_eq_true (show 0 < (p.Sections.length:Int) by omega),decide_eq_true (show 0 < (p.Trains.length:Int) by omega)];by_cases h2:8 < p.Sections.length\/3 < p.Trains.length\/4 < p.Switches.length\/10 < p.Routes.length
  · rw [if_pos h2, show (((decide (8 < (p.Sections.length : Int)) || decide (3 < (p.Trains.length : Int))) || decide (4 < (p.Switches.length : Int))) || decide (10 < (p.Routes.length : Int))) = true by
      simp only [Bool.or_eq_true,decide_eq_true_eq];omega]
    rfl
  rw [if_neg h2, show (((decide (8 < (p.Sections.length : Int)) || decide (3 < (p.Trains.length : Int))) || decide (4 < (p.Switches.length : Int))) || decide (10 < (p.Routes.length : Int))) = false by
      rw [decide_eq_false (by omega),decide_eq_false (by omega),decide_eq_false (by omega),decide_eq_false (by omega)];rfl]
  unfold Qnx Qny Qoa Qoc;rw [Qve _ _ h.se h.sn,Qve _ _ h.tr h.tn,QPt h,QNl h];have hz:∀ {f:Nat->Int} {n i:Nat},Xx f n=some i->f i≠0:=fun {f n i} hf=>by
    rcases Qik f n with ⟨k1,_⟩ | ⟨j,k1,_,k3,_⟩
    · rw [k1] at hf;cases hf
    · rw [k1] at hf;cases hf;exact k3
  simp only [Bool.true_and,Bool.not_false,cond_true,Zv,if_true,decide_true,Bool.not_true,cond_false,QB];cases h3:Xx (YZ p.Sections) p.Sections.length with
  | some i=>simp [hz h3]
  | none =>
    simp only [decide_true,Bool.not_true,cond_false];cases h4:Xx (YZ p.Trains) p.Trains.length with
    | some i=>simp [hz h4]
    | none =>
      simp only [decide_true,Bool.not_true,cond_false];cases h5:Xx (Zj p) p.Switches.length with
      | some i=>simp [hz h5]
      | none =>
        simp only [decide_true,Bool.not_true,cond_false];cases h6:Xx (Zi p) p.Routes.length with
        | some i=>simp [hz h6]
        | none=>simp
theorem QLs {p:LockPlant} (h:PlantS p):Qce p=some (Z4 p).2:=by
 unfold Qce;rw [QBa h];rfl
end Go.Gw

end
section
set_option maxRecDepth 4096
namespace Go.Gw
open Go
attribute [local irreducible] loop
structure StateS (x:LockState):Prop where
 sw:x.Switches.length < 1000
 tr:x.Trains.length < 1000
 ch:∀ t∈x.Trains,t.Chain.length < 1000
def Xy (x:LockState) (s:Int):Int:=JO (fun t:LockTrain=>decide (s∈t.Chain)) x.Trains
def ZR (x:LockState) (s:Int):Bool:=x.Trains.any fun t=>decide (s∈t.Chain)
theorem Qis (x:LockState) (s:Int):decide (0<=Xy x s)=ZR x s:=Qnp _ _
theorem Qtq (p:LockPlant) {x:LockState} (h:StateS x) (s:Int):Qfi (some ⟨p,x⟩) s=some (Xy x s):=by
 have h1:=h.tr;unfold Qfi Qqn Xy JO;rw [QB];show (Option.bind (Option.bind (loop (Qli s x.Trains) 0) _) _)=_;rw [YJ x.Trains (fun t=>decide (s∈t.Chain)) (fun k _=>(k:Int)),QB,Qcl,QB]
 ·intro k hk;unfold Qli Qom;rw [XK hk,cond_true,Xu hk,QB,Qdb _ _ (by have:=h.ch _ (List.getElem_mem hk);omega),QB,QB,XE k (by omega)]
 ·unfold Qli;rw [XM];rfl
theorem QPx (p:LockPlant) {x:LockState} (h:StateS x) (l:List Int) (hl:l.length < 1000):Qcd (some ⟨p,x⟩) l=some (l.any (ZR x)):=by
 unfold Qcd Qqk Qqr;rw [YJ l (ZR x) (fun k _=>(k:Int)),QB,Qcl,QB,Qgv]
 ·rfl
 ·intro k hk;unfold Qqq Qop;rw [XK hk,cond_true,Xu hk,QB,Qtq p h,QB,QB,Qis,XE k (by omega)]
 ·unfold Qqq;rw [XM];rfl
def Qfe (secs:List Int) (q:LockSwitch×(Int×Int)):Bool:=decide (q.1.Section∈secs)&&!decide (q.2.1=q.2.2)
def Zx (p:LockPlant) (sw:List Int) (r:LockRoute) (secs:List Int):Bool:=!((p.Switches.zip (r.Needs.zip sw)).any (Qfe secs))
theorem QOx (α:Type) (p:α->Bool) (l:List α):(Xn (XZ p (fun _ _=>false) 0 l) fun (_:Unit)=>some true)=some (!(l.any p)):=by
 rcases Zz (p:=p) (res:=fun _ _=>false) l 0 with ⟨k1,k2⟩ | ⟨j,x,k1,k2,k3⟩
 ·rw [k1,k2];rfl
 ·rw [k1,k3];rfl
theorem QFn {p:LockPlant} {x:LockState} {r:LockRoute} {secs:List Int} (h1:r.Needs.length=p.Switches.length) (h2:x.Switches.length=p.Switches.length) (h3:p.Switches.length < 1000) (hs:secs.length < 1000):Qfj (some ⟨p,x⟩) r secs=some (Zx p x.Switches r secs):=by
 unfold Qfj Zx;have hlen:(p.Switches.zip (r.Needs.zip x.Switches)).length=p.Switches.length:=by simp [h1,h2]
 rw [QB,YJ (p.Switches.zip (r.Needs.zip x.Switches)) (Qfe secs) (fun _ _=>false),QB,QOx]
 ·intro k hk;rw [hlen] at hk;unfold Qoo;rw [XK hk,cond_true,Xu hk,QB,Qdb _ _ (by omega),QB,XE k (by omega)];simp only [QB];rw [Xu (show k < r.Needs.length by omega),Xu (show k < x.Switches.length by omega)];simp only [List.getElem_zip,Qfe,QB];cases decide (p.Switches[k].Section∈secs)<;>rfl
 ·rw [hlen];unfold Qoo;rw [XM];rfl
theorem Qts {α:Type} {xs:List α} {i:Int} (h0:0<=i) (h:i.toNat < xs.length):idx xs i=some xs[i.toNat]:=by
 unfold idx;rw [if_pos h0,List.getElem?_eq_getElem h]
/-! ### Events -/
def ZT (p:LockPlant) (n:Int):Bool:=decide (0<=n)&&decide (n<=(p.Trains.length:Int) - 1)
def QPs (p:LockPlant) (n:Int):Bool:=decide (0<=n)&&decide (n<=(p.Switches.length:Int) - 1)
def QNk (p:LockPlant) (n:Int):Bool:=decide (0<=n)&&decide (n<=(p.Routes.length:Int) - 1)
def YR (n:Int):Bool:=decide (n=0)||decide (n=1)
def Qte (p:LockPlant) (e:LockEvent):Int :=
 if ¬ (0<=e.Kind/\e.Kind<=6) then 15 else if e.Kind=2 then (bif QPs p e.A then (bif YR e.B then 0 else 2) else 6) else
 bif ZT p e.A then (if e.Kind=0 then (bif X9 p e.B then 0 else 6) else if e.Kind=1 then (bif QNk p e.B then 0 else 6) else if e.B=0 then 0 else 3) else 6
theorem Qub {n:Int} {k:Nat} (hk:k < 1000):Z0 n 0 (w64 ((k:Int) - 1))=some (decide (0<=n)&&decide (n<=(k:Int) - 1)):=by
 rw [Qri,Jc (by omega)]
theorem Qxl {p:LockPlant} (h:PlantS p) (n:Int):Qdn p n=some (bif X9 p n then 0 else 6):=by
 unfold Qdn;rw [Qub h.se,QB,Y7];rfl
theorem QQt {p:LockPlant} (h:PlantS p) (n:Int):Qfp p n=some (bif ZT p n then 0 else 6):=by
 unfold Qfp;rw [Qub h.tr,QB,Y7];rfl
def Qbj (x:LockState) (e:LockEvent):LockTrain:=x.Trains[e.A.toNat]?.getD ⟨[],0⟩
def QPq (p:LockPlant) (e:LockEvent):LockSwitch:=p.Switches[e.A.toNat]?.getD ⟨ByteArray.mk #[],0⟩
def Qgj (p:LockPlant) (e:LockEvent):LockRoute:=p.Routes[e.B.toNat]?.getD ⟨ByteArray.mk #[],[],[]⟩
def QOy (p:LockPlant) (x:LockState) (e:LockEvent):Int :=
 if e.Kind=2 then (bif ZR x (QPq p e).Section then 17 else 0) else
 if e.Kind=0 then (if (Qbj x e).Chain.length=0 then (bif ZR x e.B then 17 else 0) else 22) else
 if (Qbj x e).Chain.length=0 then 22 else
 if e.Kind=1 then (if (Qgj p e).Sections.head?=(Qbj x e).Chain.getLast? then (bif ((Qgj p e).Sections.drop 1).any (ZR x) then 17 else bif Zx p x.Switches (Qgj p e) (Qgj p e).Sections then 0 else 13) else 23) else
 if e.Kind=4 then (if 1 < (Qbj x e).Under then 0 else 12) else
 if e.Kind=3\/e.Kind=5 then (if (Qbj x e).Under < (Qbj x e).Chain.length then 0 else 12) else
 if (Qbj x e).Chain.length=1 then 0 else 17
def trX (p:LockPlant) (t:LockTrain) (e:LockEvent):LockTrain :=
 if e.Kind=0 then ⟨[e.B],1⟩ else if e.Kind=1 then ⟨t.Chain++(Qgj p e).Sections.drop 1,t.Under⟩ else if e.Kind=3 then ⟨t.Chain,t.Under+1⟩ else
 if e.Kind=4 then ⟨t.Chain.drop 1,t.Under - 1⟩ else if e.Kind=5 then ⟨t.Chain.take (t.Chain.length - 1),t.Under⟩ else ⟨[],0⟩
def QPl (p:LockPlant) (x:LockState) (e:LockEvent):LockState :=
 if e.Kind=2 then ⟨x.Switches.set e.A.toNat e.B,x.Trains,x.Counter⟩ else ⟨x.Switches,x.Trains.set e.A.toNat (trX p (Qbj x e) e),x.Counter⟩
end Go.Gw

end
section
set_option maxRecDepth 4096
namespace Go.Gw
open Go
attribute [local irreducible] loop
theorem Qfa {f:Nat->Int} {n:Nat} (h:Xx f n=none):∀ j,j < n->f j=0:=by
 rcases Qik f n with ⟨_,h2⟩ | ⟨i,h1,_⟩
 ·exact h2
 ·rw [h1] at h;cases h
theorem JB {f:Nat->Int} {n i:Nat} (h:Xx f n=some i):i < n/\f i≠0/\∀ j,j < i->f j=0:=by
 rcases Qik f n with ⟨h1,_⟩ | ⟨j,h1,h2,h3,h4⟩
 ·rw [h1] at h;cases h
 ·rw [h1] at h;cases h;exact ⟨h2,h3,h4⟩
theorem QDz {f:Nat->Int} {n:Nat} (h:∀ j,j < n->f j=0):Xx f n=none:=by
 cases hf:Xx f n with
 | none=>rfl
 | some i=>obtain ⟨h1,h2,_⟩:=JB hf;exact absurd (h i h1) h2
theorem Qvy {α:Type} {l:List α} (h:∀ k (hk:k < l.length),l[k]∉l.take k):l.Nodup:=by
 unfold List.Nodup;rw [List.pairwise_iff_getElem];intro i j hi hj hij e;refine h j hj ?_;rw [<-e];exact List.mem_take_iff_getElem.2 ⟨i,by omega,rfl⟩
theorem QKt {α:Type} {l:List α} (h:l.Nodup) {k:Nat} (hk:k < l.length):l[k]∉l.take k:=by
 intro hm;obtain ⟨i,hi,e⟩:=List.mem_take_iff_getElem.1 hm;unfold List.Nodup at h;rw [List.pairwise_iff_getElem] at h;exact h i k (by omega) hk (by omega) e
structure PlantOk (p:LockPlant):Prop where
 s1:1<=p.Sections.length
 s8:p.Sections.length<=8
 t1:1<=p.Trains.length
 t3:p.Trains.length<=3
 w4:p.Switches.length<=4
 r10:p.Routes.length<=10
 ws:∀ s∈p.Switches,X9 p s.Section=true
 r2:∀ r∈p.Routes,2<=r.Sections.length
 r8:∀ r∈p.Routes,r.Sections.length<=p.Sections.length
 rs:∀ r∈p.Routes,∀ s∈r.Sections,X9 p s=true
 rd:∀ r∈p.Routes,r.Sections.Nodup
 rn:∀ r∈p.Routes,r.Needs.length=p.Switches.length
 rx:∀ r∈p.Routes,(r.Needs.zip p.Switches).any (JQ r)=false
theorem Qdw {p:LockPlant} {r:LockRoute} (h:rtX p r=0):2<=r.Sections.length/\r.Sections.length<=p.Sections.length/\(∀ s∈r.Sections,X9 p s=true)/\r.Sections.Nodup/\r.Needs.length=p.Switches.length/\(r.Needs.zip p.Switches).any (JQ r)=false:=by
 unfold rtX at h;by_cases h1:r.Sections.length < 2
 ·rw [if_pos h1] at h;cases h
 rw [if_neg h1] at h;by_cases h2:p.Sections.length < r.Sections.length
 ·rw [if_pos h2] at h;cases h
 rw [if_neg h2] at h;cases hf:Xx (Z6 p r) r.Sections.length with
 | some i=>rw [hf] at h;exact absurd h (JB hf).2.1
 | none =>
  rw [hf] at h;have hz:∀ k (hk:k < r.Sections.length),rsE p r k r.Sections[k]=0:=fun k hk=>by
   have:=Qfa hf k hk;rwa [show Z6 p r k=rsE p r k r.Sections[k] from Zw _ _ _ hk] at this
  have hz2:∀ k (hk:k < r.Sections.length),X9 p r.Sections[k]=true/\r.Sections[k]∉r.Sections.take k:=fun k hk=>by
   have:=hz k hk;unfold rsE at this;cases hb:X9 p r.Sections[k] with
   | false=>rw [hb] at this;cases this
   | true =>
    rw [hb,cond_true] at this;refine ⟨rfl,fun hm=>?_⟩;rw [decide_eq_true hm] at this;cases this
  have h3:r.Needs.length=p.Switches.length/\(r.Needs.zip p.Switches).any (JQ r)=false:=by
   by_cases h5:r.Needs.length=p.Switches.length
   ·simp only [h5,if_true] at h;refine ⟨h5,?_⟩;cases hb:(r.Needs.zip p.Switches).any (JQ r) with
    | false=>rfl
    | true=>rw [hb] at h;cases h
   ·simp only [h5,if_false] at h;cases h
  refine ⟨by omega,by omega,fun s hs=>?_,Qvy fun k hk=>(hz2 k hk).2,h3.1,h3.2⟩;obtain ⟨k,hk,rfl⟩:=List.getElem_of_mem hs;exact (hz2 k hk).1
theorem Qpr {p:LockPlant} (h:(Z4 p).2=0):PlantOk p:=by
 unfold Z4 at h;by_cases h1:p.Sections.length=0\/p.Trains.length=0
 ·rw [if_pos h1] at h;cases h
 rw [if_neg h1] at h;by_cases h2:8 < p.Sections.length\/3 < p.Trains.length\/4 < p.Switches.length\/10 < p.Routes.length
 ·rw [if_pos h2] at h;cases h
 rw [if_neg h2] at h;cases h3:Xx (YZ p.Sections) p.Sections.length with
 | some i=>rw [h3] at h;exact absurd h (JB h3).2.1
 | none =>
  rw [h3] at h;cases h4:Xx (YZ p.Trains) p.Trains.length with
  | some i=>rw [h4] at h;exact absurd h (JB h4).2.1
  | none =>
   rw [h4] at h;cases h5:Xx (Zj p) p.Switches.length with
   | some i=>rw [h5] at h;exact absurd h (JB h5).2.1
   | none =>
    rw [h5] at h;cases h6:Xx (Zi p) p.Routes.length with
    | some i=>rw [h6] at h;exact absurd h (JB h6).2.1
    | none =>
     have hr:∀ r∈p.Routes,rtX p r=0:=fun r hr=>by
      obtain ⟨k,hk,rfl⟩:=List.getElem_of_mem hr;have:=Qfa h6 k hk;rw [show Zi p k=rtE p k p.Routes[k] from Zw _ _ _ hk] at this;unfold rtE at this;by_cases hn:Zh p.Routes[k].Name ((p.Routes.take k).map (·.Name))=0
      ·rwa [if_pos hn] at this
      ·rw [if_neg hn] at this;exact absurd this hn
     refine ⟨by omega,by omega,by omega,by omega,by omega,by omega,fun s hs=>?_,fun r h=>(Qdw (hr r h)).1,fun r h=>(Qdw (hr r h)).2.1,fun r h=>(Qdw (hr r h)).2.2.1,fun r h=>(Qdw (hr r h)).2.2.2.1,fun r h=>(Qdw (hr r h)).2.2.2.2.1,fun r h=>(Qdw (hr r h)).2.2.2.2.2⟩;obtain ⟨k,hk,rfl⟩:=List.getElem_of_mem hs;have:=Qfa h5 k hk;rw [show Zj p k=swE p k p.Switches[k] from Zw _ _ _ hk] at this;unfold swE at this;by_cases hn:Zh p.Switches[k].Name ((p.Switches.take k).map (·.Name))=0
     ·rw [if_pos hn] at this;unfold swX at this;cases hb:X9 p p.Switches[k].Section with
      | true=>rfl
      | false=>rw [hb] at this;cases this
     ·rw [if_neg hn] at this;exact absurd this hn
def ZJ (r:LockRoute) (a b:Int):Bool:=(r.Sections.zip (r.Sections.drop 1)).any fun q=>decide (q.1=a)&&decide (q.2=b)
def J3 (p:LockPlant) (sw:List Int) (a b:Int):Bool:=p.Routes.any fun r=>ZJ r a b&&Zx p sw r [a,b]
theorem pairB_iff {r:LockRoute} {a b:Int}:ZJ r a b=true↔∃ k,∃ hk:k+1 < r.Sections.length,r.Sections[k]=a/\r.Sections[k+1]=b:=by
 unfold ZJ;rw [List.any_eq_true];constructor
 ·rintro ⟨q,hq,h⟩;obtain ⟨k,hk,rfl⟩:=List.getElem_of_mem hq;simp only [List.length_zip,List.length_drop] at hk;simp only [List.getElem_zip,List.getElem_drop,Bool.and_eq_true,decide_eq_true_eq] at h;refine ⟨k,by omega,h.1,?_⟩;rw [<-h.2];congr 1;omega
 ·rintro ⟨k,hk,h1,h2⟩;refine ⟨(r.Sections[k],r.Sections[k+1]),?_,by simp [h1,h2]⟩;rw [List.mem_iff_getElem];refine ⟨k,by simp only [List.length_zip,List.length_drop];omega,?_⟩;simp only [List.getElem_zip,List.getElem_drop,Prod.mk.injEq,true_and];congr 1;omega
structure StateOk (p:LockPlant) (x:LockState):Prop where
 sw:x.Switches.length=p.Switches.length
 tr:x.Trains.length=p.Trains.length
 pos:∀ n∈x.Switches,YR n=true
 cnt:JY x.Counter=true
 un:∀ t∈x.Trains,(t.Chain=[]/\t.Under=0)\/(1<=t.Under/\t.Under<=t.Chain.length)
 sc:∀ t∈x.Trains,∀ s∈t.Chain,X9 p s=true
 nd:∀ t∈x.Trains,t.Chain.Nodup
 dj:∀ i j (hi:i < x.Trains.length) (hj:j < x.Trains.length),i≠j->∀ s∈x.Trains[i].Chain,s∉x.Trains[j].Chain
 ld:∀ t∈x.Trains,∀ k (hk:k+1 < t.Chain.length),J3 p x.Switches t.Chain[k] t.Chain[k+1]=true
end Go.Gw

end
section
set_option maxRecDepth 4096
namespace Go.Gw
open Go
attribute [local irreducible] loop
end Go.Gw

end
section
set_option maxRecDepth 4096
namespace Go.Gw
open Go
attribute [local irreducible] loop
def JZ (p:LockPlant) (x:LockState) (n:Nat) (t:LockTrain) (k:Nat) (s:Int):Int :=
 bif X9 p s then (bif decide (s∈t.Chain.take k)||(x.Trains.take n).any (fun o=>decide (s∈o.Chain)) then 17 else if k=0 then 0 else bif J3 p x.Switches (t.Chain[k - 1]?.getD 0) s then 0 else 23) else 6
def ZN (p:LockPlant) (x:LockState) (n:Nat) (t:LockTrain) (k:Nat):Int:=(t.Chain[k]?.map (JZ p x n t k)).getD 0
def Jv (t:LockTrain):Bool:=if t.Chain.length=0 then decide (t.Under=0) else decide (1<=t.Under)&&decide (t.Under<=t.Chain.length)
def tsE (p:LockPlant) (x:LockState) (n:Nat) (t:LockTrain):Int:=bif Jv t then (match Xx (ZN p x n t) t.Chain.length with | some k=>ZN p x n t k | none=>0) else 3
def Z8 (p:LockPlant) (x:LockState) (n:Nat):Int:=(x.Trains[n]?.map (tsE p x n)).getD 0
def Qdz (p:LockPlant) (x:LockState):Int :=
 if x.Switches.length=p.Switches.length/\x.Trains.length=p.Trains.length then
  (bif x.Switches.all YR&&JY x.Counter then (match Xx (Z8 p x) x.Trains.length with | some k=>Z8 p x k | none=>0) else 2) else 10
theorem tsE_zero {p:LockPlant} {x:LockState} {n:Nat} {t:LockTrain}:tsE p x n t=0↔Jv t=true/\∀ k (hk:k < t.Chain.length),JZ p x n t k t.Chain[k]=0:=by
 unfold tsE;cases hu:Jv t with
 | false=>simp
 | true =>
  simp only [cond_true,true_and];have hg:∀ k (hk:k < t.Chain.length),ZN p x n t k=JZ p x n t k t.Chain[k]:=fun k hk=>Zw _ _ _ hk
  cases hf:Xx (ZN p x n t) t.Chain.length with
  | some k =>
   obtain ⟨h1,h2,_⟩:=JB hf;constructor
   ·intro h;exact absurd h h2
   ·intro h;exact absurd ((hg k h1).trans (h k h1)) h2
  | none=>exact ⟨fun _ k hk=>(hg k hk).symm.trans (Qfa hf k hk),fun _=>rfl⟩
theorem chE_zero {p:LockPlant} {x:LockState} {n:Nat} {t:LockTrain} {k:Nat} {s:Int}:JZ p x n t k s=0↔X9 p s=true/\s∉t.Chain.take k/\(∀ o∈x.Trains.take n,s∉o.Chain)/\(k≠0->J3 p x.Switches (t.Chain[k - 1]?.getD 0) s=true):=by
  unfold JZ;cases X9 p s with
  | false=>simp
  | true =>
    simp only [cond_true,true_and];by_cases h1:s∈t.Chain.take k
    · simp [h1]
    by_cases h2:∀ o∈x.Trains.take n,s∉o.Chain
    · have h3 : (x.Trains.take n).any (fun o => decide (s ∈ o.Chain)) = false := by
        rw [List.any_eq_false];intro o ho hm;exact h2 o ho (of_decide_eq_true hm)
      rw [h3,decide_eq_false h1];by_cases hk:k=0
      · simp [hk];exact h2
      · simp only [Bool.or_false,cond_false,if_neg hk];cases J3 p x.Switches (t.Chain[k - 1]?.getD 0) s with
        | false=>simp [hk]
        | true=>simp [h1];exact h2
    · have h3 : (x.Trains.take n).any (fun o => decide (s ∈ o.Chain)) = true := by
        cases hb:(x.Trains.take n).any (fun o=>decide (s∈o.Chain)) with
        | true=>rfl
        | false =>
          rw [List.any_eq_false] at hb;exact absurd (fun o ho hm=>hb o ho (decide_eq_true hm)) h2
      rw [h3,Bool.or_true];simp [h2]
theorem undB_iff {t:LockTrain}:Jv t=true↔(t.Chain=[]/\t.Under=0)\/(1<=t.Under/\t.Under<=t.Chain.length):=by
 unfold Jv;by_cases h:t.Chain.length=0
 ·rw [if_pos h];have h2:t.Chain=[]:=List.length_eq_zero_iff.1 h;simp only [decide_eq_true_eq];constructor
  ·intro h3;exact .inl ⟨h2,h3⟩
  ·rintro (h3 | h3)
   ·exact h3.2
   ·omega
 ·rw [if_neg h];simp only [Bool.and_eq_true,decide_eq_true_eq];constructor
  ·intro h3;exact .inr h3
  ·rintro (h3 | h3)
   ·rw [h3.1] at h;exact absurd rfl h
   ·exact h3
theorem state_iff {p:LockPlant} {x:LockState}:Qdz p x=0↔StateOk p x:=by
  have hg:∀ k (hk:k < x.Trains.length),Z8 p x k=tsE p x k x.Trains[k]:=fun k hk=>Zw _ _ _ hk
  unfold Qdz;constructor
  · intro h;by_cases h1:x.Switches.length=p.Switches.length/\x.Trains.length=p.Trains.length
    · rw [if_pos h1] at h;cases h2:x.Switches.all YR&&JY x.Counter with
      | false=>rw [h2] at h;cases h
      | true =>
        rw [h2,cond_true] at h;rw [Bool.and_eq_true,List.all_eq_true] at h2;cases hf:Xx (Z8 p x) x.Trains.length with
        | some k=>rw [hf] at h;exact absurd h (JB hf).2.1
        | none =>
          have hz:∀ n (hn:n < x.Trains.length),Jv x.Trains[n]=true/\∀ k (hk:k < x.Trains[n].Chain.length),JZ p x n x.Trains[n] k x.Trains[n].Chain[k]=0:=fun n hn=>tsE_zero.1 ((hg n hn).symm.trans (Qfa hf n hn))
          refine ⟨h1.1,h1.2,h2.1,h2.2,fun t ht=>?_,fun t ht s hs=>?_,fun t ht=>?_,fun i j hi hj hij s hs hm=>?_,fun t ht k hk=>?_⟩
          · obtain ⟨n,hn,rfl⟩:=List.getElem_of_mem ht;exact undB_iff.1 (hz n hn).1
          · obtain ⟨n,hn,rfl⟩:=List.getElem_of_mem ht;obtain ⟨k,hk,rfl⟩:=List.getElem_of_mem hs;exact (chE_zero.1 ((hz n hn).2 k hk)).1
          · obtain ⟨n,hn,rfl⟩:=List.getElem_of_mem ht;exact Qvy fun k hk=>(chE_zero.1 ((hz n hn).2 k hk)).2.1
          · rcases Nat.lt_or_gt_of_ne hij with h3 | h3
            · obtain ⟨k,hk,rfl⟩:=List.getElem_of_mem hm;exact (chE_zero.1 ((hz j hj).2 k hk)).2.2.1 _ (List.mem_take_iff_getElem.2 ⟨i,by omega,rfl⟩) hs
            · obtain ⟨k,hk,rfl⟩:=List.getElem_of_mem hs;exact (chE_zero.1 ((hz i hi).2 k hk)).2.2.1 _ (List.mem_take_iff_getElem.2 ⟨j,by omega,rfl⟩) hm
          · obtain ⟨n,hn,rfl⟩:=List.getElem_of_mem ht;have:=(chE_zero.1 ((hz n hn).2 (k+1) hk)).2.2.2 (by omega);rwa [Nat.add_sub_cancel,List.getElem?_eq_getElem (show k < x.Trains[n].Chain.length by omega),Option.getD_some] at this
    · rw [if_neg h1] at h;cases h
  · intro h;rw [if_pos ⟨h.sw,h.tr⟩,show (x.Switches.all YR&&JY x.Counter)=true by rw [Bool.and_eq_true,List.all_eq_true];exact ⟨h.pos,h.cnt⟩,cond_true];rw [QDz fun n hn=>by
      rw [hg n hn,tsE_zero];have ht:=List.getElem_mem hn;refine ⟨undB_iff.2 (h.un _ ht),fun k hk=>chE_zero.2 ⟨h.sc _ ht _ (List.getElem_mem hk),QKt (h.nd _ ht) hk,fun o ho hm=>?_,fun hk0=>?_⟩⟩
      · obtain ⟨i,hi,rfl⟩:=List.mem_take_iff_getElem.1 ho;exact h.dj i n (by omega) hn (by omega) _ hm (List.getElem_mem hk)
      · rw [List.getElem?_eq_getElem (show k - 1 < x.Trains[n].Chain.length by omega),Option.getD_some];have:=h.ld _ ht (k - 1) (by omega);simp only [show k - 1+1=k by omega] at this;exact this]
end Go.Gw

end
section
set_option maxRecDepth 4096
namespace Go.Gw
open Go
attribute [local irreducible] loop
/-! ### The beginning, copies -/
end Go.Gw

end
section
set_option maxRecDepth 4096
namespace Go.Gw
open Go
attribute [local irreducible] loop
def evE (p:LockPlant) (x:LockState) (e:LockEvent):Int:=if Qte p e=0 then QOy p x e else Qte p e
def evs (p:LockPlant):LockState->Nat->List LockEvent->LockState⊕(Nat×Int)
 | x,_,[]=>.inl x
 | x,k,e::l=>if evE p x e=0 then evs p (QPl p x e) (k+1) l else .inr (k,evE p x e)
end Go.Gw

end
section
set_option maxRecDepth 4096
namespace Go.Gw
open Go
attribute [local irreducible] loop
end Go.Gw

end
section
set_option maxRecDepth 4096
namespace Go.Gw
open Go
attribute [local irreducible] loop
end Go.Gw

end
section
set_option maxRecDepth 4096
namespace Go.Gw
open Go
attribute [local irreducible] loop
end Go.Gw

end
section
set_option maxRecDepth 4096
namespace Go.Gw
open Go
attribute [local irreducible] loop
theorem Qio (l:List Int) (v:Int) (hl:l.length < 1000000):Qbx l v=some (decide (v∈l)):=by
 unfold Qbx;rw [YJ l (fun x=>decide (x=v)) (fun _ _=>true),QB]
 ·rcases Zz (p:=fun x=>decide (x=v)) (res:=fun _ _=>true) l 0 with ⟨k1,k2⟩ | ⟨j,x,k1,k2,k3⟩
  ·rw [k1,<-Qsc,k2];rfl
  ·rw [k1,<-Qsc,k3];rfl
 ·intro k hk;unfold Qmq;rw [XK hk,Xu hk,XE k (by omega)];rfl
 ·unfold Qmq;rw [XM];rfl
theorem QKx (l:List ByteArray) (s:ByteArray) (hl:l.length < 1000000):Qkr l s=some (JO (fun x=>decide (x=s)) l):=by
 unfold Qkr JO;rw [YJ l (fun x=>decide (x=s)) (fun k _=>(k:Int)),QB,Qcl]
 ·intro k hk;unfold Qqa;rw [XK hk,Xu hk,XE k (by omega)];rfl
 ·unfold Qqa;rw [XM];rfl
theorem Qvb (l:List ByteArray) (s:ByteArray):(l.any fun x=>decide (x=s))=Yo l s:=by
 unfold Yo;congr 1;funext x;exact decide_eq_decide.2 eq_comm
theorem Qvc {α:Type} (f:α->ByteArray) (l:List α) (s:ByteArray):(l.any fun x=>decide (f x=s))=Yo (l.map f) s:=by
 rw [<-Qvb,List.any_map];rfl
theorem Qwo (l:List ByteArray) (hl:l.length < 1000):Qgh l=some (match Xx (YZ l) l.length with | some i=>((i:Int),YZ l i) | none=>(0,0)):=by
 unfold Qgh;have key:loop (Qgg l) 0=_:=JF (step:=Qgg l) (fun k=>(k:Int)) l.length (YZ l) (fun i e=>((i:Int),e)) () (fun k hk _=>by
  have hs:YZ l k=Zh l[k] (l.take k):=Zw _ _ _ hk;rw [hs];unfold Qgg Zh;rw [XK hk,cond_true,Xu hk,QB,Qmo,QB];cases JP l[k]
  ·rfl
  ·simp only [Bool.not_true,cond_false,QB,cond_true];rw [Qdc (by omega),QB,QKx _ _ (by simp;omega),QB,Qnp,Qvb,XE k (by omega)];cases Yo (l.take k) l[k]<;>rfl) (fun _=>by
  unfold Qgg;rw [XM];rfl)
 rw [key,QB];cases Xx (YZ l) l.length<;>rfl
theorem Qqu {α ρ:Type} {step:Int->Option (Int⊕(ρ⊕Unit))} (xs:List α) (n:Nat) (hn:n<=xs.length) (p:α->Bool) (c:ρ)
  (hs:∀ k (hk:k < xs.length),k < n->step (k:Int)=(bif p xs[k] then some (.inr (.inl c)) else some (.inl ((k+1:Nat):Int))))
  (he:step (n:Int)=some (.inr (.inr ()))):loop step 0=some (if (xs.take n).any p=true then .inl c else .inr ()):=by
 have hlen:(xs.take n).length=n:=by simp;omega
 rw [YJ (xs.take n) p (fun _ _=>c) (fun k hk=>by
  rw [hlen] at hk;rw [hs k (by omega) hk];simp only [List.getElem_take]) (by rw [hlen];exact he)]
 rcases Zz (p:=p) (res:=fun _ _=>c) (xs.take n) 0 with ⟨k1,k2⟩ | ⟨j,x,k1,k2,k3⟩
 ·rw [k1,k2];rfl
 ·rw [k1,k3];rfl
theorem QMg {p:LockPlant} (h:PlantS p) (k:Nat) (hk:k < p.Switches.length):Qky p k=some (Zj p k):=by
 have h1:=h.sw;have h2:=h.se;have hs:Zj p k=swE p k p.Switches[k]:=Zw _ _ _ hk;have l0:loop (Qkw p.Switches[k] (k:Int) p) 0=some (if (p.Switches.take k).any (fun o=>decide (o.Name=p.Switches[k].Name))=true then .inl 5 else .inr ()) :=
  Qqu p.Switches k (by omega) _ _ (fun j hj hjk=>by
   unfold Qkw;rw [XK hjk,cond_true,Xu hj,QB,XE j (by omega)]) (by
   unfold Qkw;rw [XM];rfl)
 have l1:loop (Qkx p.Switches[k] (k:Int) p) 0=some (if (p.Switches.take k).any (fun o=>decide (o.Section=p.Switches[k].Section))=true then .inl 26 else .inr ()) :=
  Qqu p.Switches k (by omega) _ _ (fun j hj hjk=>by
   unfold Qkx;rw [XK hjk,cond_true,Xu hj,QB,XE j (by omega)]) (by
   unfold Qkx;rw [XM];rfl)
 rw [hs];unfold Qky swE swX Zh;rw [Xu hk,QB,Qmo,QB,l0,l1,Qvc (fun o:LockSwitch=>o.Name),show Jk p.Switches[k].Section 0 (w64 ((p.Sections.length:Int) - 1))=some (X9 p p.Switches[k].Section) by rw [Qda,Jc (by omega)];rfl];cases JP p.Switches[k].Name
 ·rfl
 ·cases Yo ((p.Switches.take k).map (·.Name)) p.Switches[k].Name
  ·cases X9 p p.Switches[k].Section
   ·rfl
   ·cases (p.Switches.take k).any (fun o=>decide (o.Section=p.Switches[k].Section))<;>rfl
  ·rfl
theorem Qwl (n:Int):Jk n 0 1=some (YR n):=by
 rw [Qda];congr 1;unfold YR;rw [Bool.eq_iff_iff];simp only [Bool.and_eq_true,Bool.or_eq_true,decide_eq_true_eq];omega
theorem QMe {p:LockPlant} (h:PlantS p) (k:Nat) (hk:k < p.Routes.length):Qkv p k=some (Zi p k):=by
 have h1:=h.ro;have h2:=h.se;have h3:=h.sw;obtain ⟨_,hr,hn⟩:=h.rn _ (List.getElem_mem hk);have hs:Zi p k=rtE p k p.Routes[k]:=Zw _ _ _ hk;have l0:loop (Qks p.Routes[k] p (k:Int)) 0=some (if (p.Routes.take k).any (fun o=>decide (o.Name=p.Routes[k].Name))=true then .inl 5 else .inr ()) :=
  Qqu p.Routes k (by omega) _ _ (fun j hj hjk=>by
   unfold Qks;rw [XK hjk,cond_true,Xu hj,QB,XE j (by omega)]) (by
   unfold Qks;rw [XM];rfl)
 rw [hs];unfold Qkv rtE;rw [Xu hk,QB,Qmo,QB,l0,Qvc (fun o:LockRoute=>o.Name)];generalize p.Routes[k]=r at hr hn ⊢;have l1:loop (Qkt r p) 0=some (match Xx (Z6 p r) r.Sections.length with | some i=>.inl (Z6 p r i) | none=>.inr ()) :=
  JF (fun k=>(k:Int)) r.Sections.length (Z6 p r) (fun _ e=>e) () (fun k hk _=>by
   have hs:Z6 p r k=rsE p r k r.Sections[k]:=Zw _ _ _ hk;rw [hs];unfold Qkt rsE;rw [XK hk,cond_true,Xu hk,QB,show Jk r.Sections[k] 0 (w64 ((p.Sections.length:Int) - 1))=some (X9 p r.Sections[k]) by rw [Qda,Jc (by omega)];rfl,QB,Qdc (by omega),QB,QB,Qio _ _ (by simp;omega),QB,XE k (by omega)];cases X9 p r.Sections[k]<;>cases decide (r.Sections[k]∈r.Sections.take k)<;>rfl) (fun _=>by
   unfold Qkt;rw [XM];rfl)
 have l2:r.Needs.length=p.Switches.length->loop (Qku r p) 0=some (XZ (JQ r) (fun _ _=>(2:Int)) 0 (r.Needs.zip p.Switches)):=fun he =>
  YJ (r.Needs.zip p.Switches) _ _ (fun k hk=>by
   rw [Qmd he] at hk;unfold Qku;rw [XK hk,cond_true,Xu (show k < p.Switches.length by omega),QB,Qio _ _ (by omega),QB,Xu hk,XE k (by omega)];simp only [List.getElem_zip,JQ,QB,Qwl];cases decide (p.Switches[k].Section∈r.Sections)<;>rfl) (by
   rw [Qmd he];unfold Qku;rw [XM];rfl)
 unfold Zh;cases JP r.Name
 ·rfl
 ·cases Yo ((p.Routes.take k).map (·.Name)) r.Name
  ·simp only [Bool.not_true,cond_false,cond_true,QB,Xn,if_true,Bool.false_eq_true,if_false];unfold rtX;by_cases h4:r.Sections.length < 2
   ·rw [if_pos h4,decide_eq_true (show (r.Sections.length:Int) < 2 by omega)];rfl
   rw [if_neg h4,decide_eq_false (show ¬ (r.Sections.length:Int) < 2 by omega)];by_cases h5:p.Sections.length < r.Sections.length
   ·rw [if_pos h5,decide_eq_true (show (p.Sections.length:Int) < r.Sections.length by omega)];rfl
   rw [if_neg h5,decide_eq_false (show ¬ (p.Sections.length:Int) < r.Sections.length by omega),l1];simp only [cond_false,QB];cases Xx (Z6 p r) r.Sections.length with
   | some i=>rfl
   | none =>
    simp only [Xn];by_cases h6:r.Needs.length=p.Switches.length
    ·rw [if_pos h6,decide_eq_true (show (r.Needs.length:Int)=p.Switches.length by omega),Bool.not_true,cond_false,l2 h6,QB];rcases Zz (p:=JQ r) (res:=fun _ _=>(2:Int)) (r.Needs.zip p.Switches) 0 with ⟨k1,k2⟩ | ⟨j,x,k1,k2,k3⟩
     ·rw [k1,k2];rfl
     ·rw [k1,k3];rfl
    ·rw [if_neg h6,decide_eq_false (show ¬ (r.Needs.length:Int)=p.Switches.length by omega)];rfl
  ·rfl
theorem QLz {p:LockPlant} (h:PlantS p):Qkj p=some (Z4 p):=by
  have h3:=h.sw;have h4:=h.ro;have l0:loop (Qkh p) 0=some (match Xx (Zj p) p.Switches.length with | some i=>.inl (LockMark.mk 3 i,Zj p i) | none=>.inr ()) :=
    JF (fun k=>(k:Int)) p.Switches.length (Zj p) (fun i e=>(LockMark.mk 3 i,e)) () (fun k hk _=>by
      unfold Qkh;rw [XK hk,cond_true,QMg h k hk,QB,XE k (by omega)];by_cases h1:Zj p k=0
      · rw [if_pos h1,decide_eq_true h1];rfl
      · rw [if_neg h1,decide_eq_false h1];rfl) (fun _=>by
      unfold Qkh;rw [XM];rfl)
  have l1:loop (Qki p) 0=some (match Xx (Zi p) p.Routes.length with | some i=>.inl (LockMark.mk 4 i,Zi p i) | none=>.inr ()) :=
    JF (fun k=>(k:Int)) p.Routes.length (Zi p) (fun i e=>(LockMark.mk 4 i,e)) () (fun k hk _=>by
      unfold Qki;rw [XK hk,cond_true,QMe h k hk,QB,XE k (by omega)];by_cases h1:Zi p k=0
      · rw [if_pos h1,decide_eq_true h1];rfl
      · rw [if_neg h1,decide_eq_false h1];rfl) (fun _=>by
      unfold Qki;rw [XM];rfl)
  unfold Qkj Z4;by_cases h1:p.Sections.length=0\/p.Trains.length=0
  · rw [if_pos h1, show (decide ((p.Sections.length : Int) = 0) || decide ((p.Trains.length : Int) = 0)) = true by
      simp only [Bool.or_eq_true,decide_eq_true_eq];omega]
    rfl
  rw [if_neg h1,decide_eq_false (show ¬ (p.Sections.length:Int)=0 by omega),decide_eq_false (show ¬ (p.Trains.length:Int)=0 by omega)];simp only [Bool.or_self,cond_false];by_cases h2:8 < p.Sections.length\/3 < p.Trains.length\/4 < p.Switches.length\/10 < p.Routes.length
  · rw [if_pos h2, show (((decide (8 < (p.Sections.length : Int)) || decide (3 < (p.Trains.length : Int))) || decide (4 < (p.Switches.length : Int))) || decide (10 < (p.Routes.length : Int))) = true by
      simp only [Bool.or_eq_true,decide_eq_true_eq];omega]
    rfl
  rw [if_neg h2, show (((decide (8 < (p.Sections.length : Int)) || decide (3 < (p.Trains.length : Int))) || decide (4 < (p.Switches.length : Int))) || decide (10 < (p.Routes.length : Int))) = false by
      rw [decide_eq_false (by omega),decide_eq_false (by omega),decide_eq_false (by omega),decide_eq_false (by omega)];rfl]
  rw [cond_false,Qwo _ h.se,Qwo _ h.tr,l0,l1];have hz:∀ {f:Nat->Int} {n i:Nat},Xx f n=some i->f i≠0:=fun hf=>(JB hf).2.1
  cases h3:Xx (YZ p.Sections) p.Sections.length with
  | some i=>simp [hz h3]
  | none =>
    simp only [QB,decide_true,Bool.not_true,cond_false];cases h4:Xx (YZ p.Trains) p.Trains.length with
    | some i=>simp [hz h4]
    | none =>
      simp only [decide_true,Bool.not_true,cond_false];cases h5:Xx (Zj p) p.Switches.length with
      | some i=>rfl
      | none =>
        simp only [Xn];cases h6:Xx (Zi p) p.Routes.length with
        | some i=>rfl
        | none=>rfl
theorem QMd {p:LockPlant} (h:PlantS p):Qkl p=some (Z4 p).2:=by
 unfold Qkl;rw [QLz h];rfl
/-! ### Copies -/
theorem Qie (l:List Int) (h:l.length < 1000000):Qat l=some l:=by
 unfold Qat;rw [Qas (by simp;omega)];rfl
theorem Qsu (l:List ByteArray) (h:l.length < 1000000):Qer l=some l:=by
 unfold Qer;rw [Qas (by simp;omega)];rfl
theorem Qhb {α:Type} (l:List α) (k:Nat) (hk:k < l.length):l.take k++[l[k]]=l.take (k+1):=by
 have:=Qyi l id k hk;simp
theorem QBh {p:LockPlant} (h:PlantS p):Qdu p=some p:=by
 have h1:=h.se;have h2:=h.tr;have h3:=h.sw;have h4:=h.ro;have hl:=Qju (step:=Qfz p) (o:=p.Routes) (fun k=>((k:Int),p.Routes.take k)) p.Routes.length (fun k hk=>by
  obtain ⟨_,hr,hn⟩:=h.rn _ (List.getElem_mem hk);unfold Qfz;simp only [XK hk,cond_true,Xu hk,QB];rw [Qie _ (by omega),QB,Qie _ (by omega),QB,Qas (by simp;omega),QB,XE k (by omega),Qhb _ _ hk]) (by
  unfold Qfz;simp only [XM,List.take_length];rfl)
 have hl2:loop (Qfz p) (0,([]:List LockRoute))=some p.Routes:=hl;unfold Qdu;rw [Qsu _ (by omega),QB,Qsu _ (by omega),QB,Qas (by simp;omega),QB,QB];simp only [List.nil_append];rw [hl2];rfl
theorem QBi {x:LockState} (h:StateS x):Qdv x=some x:=by
 have h1:=h.sw;have h2:=h.tr;have hl:=Qju (step:=Qga x) (o:=x.Trains) (fun k=>((k:Int),x.Trains.take k)) x.Trains.length (fun k hk=>by
  unfold Qga;simp only [XK hk,cond_true,Xu hk,QB];rw [Qie _ (by have:=h.ch _ (List.getElem_mem hk);omega),QB,Qas (by simp;omega),QB,XE k (by omega)];show some (Sum.inl (_,x.Trains.take k++[x.Trains[k]]))=_;rw [Qhb _ _ hk]) (by
  unfold Qga;simp only [XM,List.take_length];rfl)
 have hl2:loop (Qga x) (0,([]:List LockTrain))=some x.Trains:=hl;unfold Qdv;rw [Qie _ (by omega),QB,QB];simp only;rw [hl2];rfl
/-! ### Equal ones -/
theorem QEv (a b:List Int) (ha:a.length < 1000000):Qhx a b=some (decide (a=b)):=by
 unfold Qhx;by_cases hl:a.length=b.length
 ·rw [decide_eq_true (by omega),Bool.not_true,cond_false,YJ (a.zip b) (fun x=>!decide (x.1=x.2)) (fun _ _=>false),QB,Qtd a b hl]
  ·intro k hk;rw [Qzn hl] at hk;unfold Qmr;rw [XK hk,cond_true,Xu hk,QB,Xu (show k < b.length by omega),QB,XE k (by omega)];simp only [List.getElem_zip]
  ·rw [Qzn hl];unfold Qmr;rw [XM];rfl
 ·rw [decide_eq_false (by omega)];simp only [Bool.not_false,cond_true];rw [decide_eq_false];intro e;exact hl (by rw [e])
/-! ### The Quc -/
theorem QEa (p:LockPlant):Qdi p=some true/\PlantS p/\(p.Sections.length<=4\/8 < p.Sections.length)\/Qdi p=some false:=by
 unfold Qdi;cases hb:(((((decide (4 < (p.Sections.length:Int))&&decide ((p.Sections.length:Int)<=8))||decide (10 < (p.Sections.length:Int)))||decide (5 < (p.Trains.length:Int)))||decide (6 < (p.Switches.length:Int)))||decide (12 < (p.Routes.length:Int))) with
 | true=>exact .inr rfl
 | false =>
  rw [cond_false];simp only [Bool.or_eq_false_iff,Bool.and_eq_false_iff,decide_eq_false_iff_not] at hb;have h1:p.Sections.length < 1000:=by omega
  have h2:p.Trains.length < 1000:=by omega
  have h3:p.Switches.length < 1000:=by omega
  have h4:p.Routes.length < 1000:=by omega
  have l0:loop (Qiu p) 0=some (XZ (fun s:ByteArray=>decide (20 < (s.size:Int))) (fun _ _=>false) 0 p.Sections):=YJ p.Sections _ _ (fun k hk=>by
   unfold Qiu;rw [XK hk,cond_true,Xu hk,QB,XE k (by omega)]) (by unfold Qiu;rw [XM];rfl)
  have l1:loop (Qiv p) 0=some (XZ (fun s:ByteArray=>decide (20 < (s.size:Int))) (fun _ _=>false) 0 p.Trains):=YJ p.Trains _ _ (fun k hk=>by
   unfold Qiv;rw [XK hk,cond_true,Xu hk,QB,XE k (by omega)]) (by unfold Qiv;rw [XM];rfl)
  have l2:loop (Qiw p) 0=some (XZ (fun s:LockSwitch=>decide (20 < (s.Name.size:Int))) (fun _ _=>false) 0 p.Switches):=YJ p.Switches _ _ (fun k hk=>by
   unfold Qiw;rw [XK hk,cond_true,Xu hk,QB,XE k (by omega)]) (by unfold Qiw;rw [XM];rfl)
  have l3:loop (Qix p) 0=some (XZ (fun r:LockRoute=>decide (20 < (r.Name.size:Int))||(decide (10 < (r.Sections.length:Int))||decide (6 < (r.Needs.length:Int)))) (fun _ _=>false) 0 p.Routes):=YJ p.Routes _ _ (fun k hk=>by
   unfold Qix;simp only [XK hk,cond_true,Xu hk,QB,XE k (show k < 4611686018427387904 by omega)];cases decide (20 < (p.Routes[k].Name.size:Int))<;>cases decide (10 < (p.Routes[k].Sections.length:Int))<;>cases decide (6 < (p.Routes[k].Needs.length:Int))<;>rfl) (by unfold Qix;rw [XM];rfl)
  rw [l0,l1,l2,l3];simp only [QB];rcases Zz (p:=fun s:ByteArray=>decide (20 < (s.size:Int))) (res:=fun _ _=>false) p.Sections 0 with ⟨k1,k2⟩ | ⟨j,x,k1,k2,k3⟩
  ·rw [k1];rcases Zz (p:=fun s:ByteArray=>decide (20 < (s.size:Int))) (res:=fun _ _=>false) p.Trains 0 with ⟨m1,m2⟩ | ⟨j,x,m1,m2,m3⟩
   ·rw [m1];rcases Zz (p:=fun s:LockSwitch=>decide (20 < (s.Name.size:Int))) (res:=fun _ _=>false) p.Switches 0 with ⟨n1,n2⟩ | ⟨j,x,n1,n2,n3⟩
    ·rw [n1];rcases Zz (p:=fun r:LockRoute=>decide (20 < (r.Name.size:Int))||(decide (10 < (r.Sections.length:Int))||decide (6 < (r.Needs.length:Int)))) (res:=fun _ _=>false) p.Routes 0 with ⟨o1,o2⟩ | ⟨j,x,o1,o2,o3⟩
     ·rw [o1];rw [List.any_eq_false] at k2 m2 n2 o2;refine .inl ⟨rfl,⟨h1,h2,h3,h4,fun s hs=>?_,fun s hs=>?_,fun s hs=>?_,fun r hr=>?_⟩,by omega⟩
      ·have:=k2 s hs;simp at this;omega
      ·have:=m2 s hs;simp at this;omega
      ·have:=n2 s hs;simp at this;omega
      ·have:=o2 r hr;simp at this;omega
     ·rw [o1];exact .inr rfl
    ·rw [n1];exact .inr rfl
   ·rw [m1];exact .inr rfl
  ·rw [k1];exact .inr rfl
theorem QEb (x:LockState):Qdj x=some true/\StateS x\/Qdj x=some false:=by
 unfold Qdj;cases hb:(decide (6 < (x.Switches.length:Int))||decide (5 < (x.Trains.length:Int))) with
 | true=>exact .inr rfl
 | false =>
  rw [cond_false];simp only [Bool.or_eq_false_iff,decide_eq_false_iff_not] at hb;have l0:loop (Qiy x) 0=some (XZ (fun t:LockTrain=>decide (10 < (t.Chain.length:Int))) (fun _ _=>false) 0 x.Trains):=YJ x.Trains _ _ (fun k hk=>by
   unfold Qiy;rw [XK hk,cond_true,Xu hk,QB,XE k (by omega)]) (by unfold Qiy;rw [XM];rfl)
  rw [l0,QB];rcases Zz (p:=fun t:LockTrain=>decide (10 < (t.Chain.length:Int))) (res:=fun _ _=>false) x.Trains 0 with ⟨k1,k2⟩ | ⟨j,y,k1,k2,k3⟩
  ·rw [k1];rw [List.any_eq_false] at k2;refine .inl ⟨rfl,by omega,by omega,fun t ht=>?_⟩;have:=k2 t ht;simp at this;omega
  ·rw [k1];exact .inr rfl
end Go.Gw

end
section
set_option maxRecDepth 4096
namespace Go.Gw
open Go
attribute [local irreducible] loop
theorem Qwn {x:LockState} (h:StateS x) (s:Int):Qgb x s=some (Xy x s):=by
 have h1:=h.tr;unfold Qgb Xy JO;rw [YJ x.Trains (fun t=>decide (s∈t.Chain)) (fun k _=>(k:Int)),QB,Qcl]
 ·intro k hk;unfold Qpw;rw [XK hk,cond_true,Xu hk,QB,Qio _ _ (by have:=h.ch _ (List.getElem_mem hk);omega),QB,XE k (by omega)]
 ·unfold Qpw;rw [XM];rfl
theorem Qwp {p:LockPlant} (h:PlantS p) (n:Int):Qgd p n=some (bif X9 p n then 0 else 6):=by
 have:=h.se;unfold Qgd;rw [Qda,Jc (by omega),QB];show (bif !(X9 p n) then _ else _)=_;cases X9 p n<;>rfl
theorem QMh {p:LockPlant} (h:PlantS p) (n:Int):Qko p n=some (bif ZT p n then 0 else 6):=by
 have:=h.tr;unfold Qko;rw [Qda,Jc (by omega),QB];show (bif !(ZT p n) then _ else _)=_;cases ZT p n<;>rfl
/-! ### Which section leads to which -/
theorem Qth {α:Type} (g:α->Bool):∀ (l:List α) (k:Nat) (b:Bool),JM (fun (_:Nat) (a:Bool) (x:α)=>a&&!(g x)) k b l=(b&&!(l.any g))
 | [],k,b=>by simp [JM]
 | x::l,k,b=>by
  unfold JM;rw [Qth g l];simp only [List.any_cons];cases b<;>cases g x<;>simp
theorem QMb {p:LockPlant} {x:LockState} {r:LockRoute} {a b:Int} (h1:r.Needs.length=p.Switches.length) (h2:x.Switches.length=p.Switches.length) (h3:p.Switches.length < 1000):loop (Qgf r p x b a) (true,0)=some (Zx p x.Switches r [a,b]):=by
 have hlen:(p.Switches.zip (r.Needs.zip x.Switches)).length=p.Switches.length:=by simp [h1,h2]
 have:=(Qux (step:=Qgf r p x b a) (p.Switches.zip (r.Needs.zip x.Switches)) (fun _ (c:Bool) q=>c&&!(Qfe [a,b] q)) (fun c k=>(c,(k:Int))) (fun c=>c) (fun _ _=>True) true trivial (fun k hk c _=>by
  rw [hlen] at hk;refine ⟨?_,trivial⟩;unfold Qgf;simp only [XK hk,cond_true,Xu hk,QB,XE k (show k < 4611686018427387904 by omega),Xu (show k < r.Needs.length by omega),Xu (show k < x.Switches.length by omega),List.getElem_zip,Qfe];generalize hs:p.Switches[k].Section=s;by_cases ha:s=a
  ·subst ha;cases c
   ·simp
   ·by_cases hn:x.Switches[k]=r.Needs[k]
    ·simp [hn]
    ·simp [hn,Ne.symm hn]
  ·by_cases hb:s=b
   ·subst hb;cases c
    ·simp [ha,hs]
    ·by_cases hn:x.Switches[k]=r.Needs[k]
     ·simp [hn,ha,hs]
     ·simp [hn,Ne.symm hn,ha,hs]
   ·cases c<;>simp [ha,hb,hs]) (fun c _=>by
  rw [hlen];unfold Qgf;simp only [XM];rfl)).1
 rw [Qth,Bool.true_and] at this;exact this
theorem QMa {p:LockPlant} (hp:PlantOk p) {x:LockState} (h2:x.Switches.length=p.Switches.length) (a b:Int):Qkq p x a b=some (J3 p x.Switches a b):=by
 have hw4:=hp.w4;have hr10:=hp.r10;have hs8:=hp.s8;unfold Qkq J3;have inner:∀ r∈p.Routes,loop (Qkp r p x b a) 0=some (if (ZJ r a b&&Zx p x.Switches r [a,b])=true then .inl (.inr (.inl true)) else .inr ()):=fun r hr=>by
  have hr2:=hp.r2 r hr;have hr8:=hp.r8 r hr;have hlen:(r.Sections.zip (r.Sections.drop 1)).length=r.Sections.length - 1:=by simp
  rw [YJ (r.Sections.zip (r.Sections.drop 1)) (fun q=>(decide (q.1=a)&&decide (q.2=b))&&Zx p x.Switches r [a,b]) (fun _ _=>Sum.inr (.inl true)) (fun k hk=>by
   rw [hlen] at hk;unfold Qkp;rw [XE k (by omega),XK (show k+1 < r.Sections.length by omega),cond_true,Xu (show k < r.Sections.length by omega),QB,Xu (show k+1 < r.Sections.length by omega),QMb (hp.rn r hr) h2 (by omega)];simp only [List.getElem_zip,List.getElem_drop,QB];have e:r.Sections[1+k]'(by omega)=r.Sections[k+1]'(by omega) := by congr 1;omega
   rw [e];generalize Zx p x.Switches r [a,b]=lb;by_cases h3:r.Sections[k]=a
   ·by_cases h4:r.Sections[k+1]=b
    ·cases lb<;>simp [h3,h4]
    ·cases lb<;>simp [h3,h4]
   ·cases lb<;>simp [h3]) (by
   rw [hlen];unfold Qkp;rw [XE _ (by omega),show r.Sections.length - 1+1=r.Sections.length by omega,XM];rfl)]
  have ea:(r.Sections.zip (r.Sections.drop 1)).any (fun q=>(decide (q.1=a)&&decide (q.2=b))&&Zx p x.Switches r [a,b])=(ZJ r a b&&Zx p x.Switches r [a,b]):=by
   unfold ZJ;cases Zx p x.Switches r [a,b]<;>simp
  rcases Zz (p:=fun q:Int×Int=>(decide (q.1=a)&&decide (q.2=b))&&Zx p x.Switches r [a,b]) (res:=fun _ _=>(Sum.inr (.inl true):Int⊕(Bool⊕Unit))) (r.Sections.zip (r.Sections.drop 1)) 0 with ⟨k1,k2⟩ | ⟨j,y,k1,k2,k3⟩
  ·rw [k1,<-ea,k2];rfl
  ·rw [k1,<-ea,k3];rfl
 rw [YJ p.Routes (fun r=>ZJ r a b&&Zx p x.Switches r [a,b]) (fun _ _=>true),QB]
 ·rcases Zz (p:=fun r=>ZJ r a b&&Zx p x.Switches r [a,b]) (res:=fun _ _=>true) p.Routes 0 with ⟨k1,k2⟩ | ⟨j,y,k1,k2,k3⟩
  ·rw [k1,k2];rfl
  ·rw [k1,k3];rfl
 ·intro k hk;unfold Qpz;rw [XK hk,cond_true,Xu hk,QB,inner _ (List.getElem_mem hk),XE k (by omega)];cases (ZJ p.Routes[k] a b&&Zx p x.Switches p.Routes[k] [a,b])<;>rfl
 ·unfold Qpz;rw [XM];rfl
/-! ### Which states are right -/
theorem QHv {x:LockState} {n:Nat} {s:Int}:decide (s∈(x.Trains.take n).flatMap (·.Chain))=(x.Trains.take n).any fun o=>decide (s∈o.Chain):=by
 rw [Bool.eq_iff_iff,decide_eq_true_eq,List.any_eq_true,List.mem_flatMap];simp only [decide_eq_true_eq]
theorem Qwm {p:LockPlant} (hS:PlantS p) (hp:PlantOk p) {x:LockState} (h:StateS x) (h2:x.Switches.length=p.Switches.length) (n:Nat) (hn:n < x.Trains.length) (hf:((x.Trains.take n).flatMap (·.Chain)).length<=1000 * n) :
    loop (Qge x.Trains[n] p x) ((x.Trains.take n).flatMap (·.Chain),0)=some (match Xx (ZN p x n x.Trains[n]) x.Trains[n].Chain.length with | some k=>.inl (.inr (.inl (ZN p x n x.Trains[n] k))) | none=>.inr ((x.Trains.take (n+1)).flatMap (·.Chain))):=by
  have hc:=h.ch _ (List.getElem_mem hn);have hl:=h.tr;have e1:(x.Trains.take (n+1)).flatMap (·.Chain)=(x.Trains.take n).flatMap (·.Chain)++x.Trains[n].Chain:=by
    rw [<-Qhb _ _ hn,List.flatMap_append];simp
  rw [e1];generalize hF:(x.Trains.take n).flatMap (·.Chain)=F at hf ⊢;have hm:∀ s,decide (s∈F)=(x.Trains.take n).any fun o=>decide (s∈o.Chain):=fun s=>by rw [<-hF];exact QHv
  have:=JF (step:=Qge x.Trains[n] p x) (fun k=>(F++x.Trains[n].Chain.take k,(k:Int))) x.Trains[n].Chain.length (ZN p x n x.Trains[n]) (fun _ e=>(.inr (.inl e):((List Int)×Int)⊕(Int⊕Unit))) (F++x.Trains[n].Chain) (fun k hk _=>by
    have hs:ZN p x n x.Trains[n] k=JZ p x n x.Trains[n] k x.Trains[n].Chain[k]:=Zw _ _ _ hk;rw [hs];unfold Qge JZ;simp only [XK hk,cond_true,Xu hk,QB,Qwp hS];rw [Qio _ _ (by simp;omega),QB,Qas (by simp;omega),QB,XE k (by omega),List.append_assoc,Qhb _ _ hk,
      show decide (x.Trains[n].Chain[k]∈F++x.Trains[n].Chain.take k)=(decide (x.Trains[n].Chain[k]∈x.Trains[n].Chain.take k)||(x.Trains.take n).any fun o=>decide (x.Trains[n].Chain[k]∈o.Chain)) by
        rw [<-hm,Bool.eq_iff_iff];simp [or_comm]]
    cases X9 p x.Trains[n].Chain[k]
    · rfl
    cases (decide (x.Trains[n].Chain[k]∈x.Trains[n].Chain.take k)||(x.Trains.take n).any fun o=>decide (x.Trains[n].Chain[k]∈o.Chain))
    · simp only [cond_true,decide_true,Bool.not_true,cond_false];by_cases hk0:k=0
      · subst hk0;rfl
      · rw [decide_eq_true (show (0:Int) < (k:Int) by omega),show w64 ((k:Int) - 1)=((k - 1:Nat):Int) by rw [Jc (by omega)];omega];simp only [cond_true,Xu (show k - 1 < x.Trains[n].Chain.length by omega),QB,QMa hp h2,if_neg hk0,List.getElem?_eq_getElem (show k - 1 < x.Trains[n].Chain.length by omega),Option.getD_some];cases J3 p x.Switches x.Trains[n].Chain[k - 1] x.Trains[n].Chain[k]<;>rfl
    · rfl) (fun _=>by
    unfold Qge;simp only [XM,List.take_length];rfl)
  simp only [List.take_zero,List.append_nil,Int.natCast_zero] at this;exact this
theorem QMf {p:LockPlant} (hS:PlantS p) (hp:PlantOk p) {x:LockState} (h:StateS x):Qkn p x=some (Qdz p x):=by
  have h1:=h.sw;have h2:=h.tr;have hw4:=hp.w4;have ht3:=hp.t3;unfold Qkn Qdz;by_cases hl:x.Switches.length=p.Switches.length/\x.Trains.length=p.Trains.length
  · rw [if_pos hl,decide_eq_true (show (x.Switches.length:Int)=p.Switches.length by omega),decide_eq_true (show (x.Trains.length:Int)=p.Trains.length by omega)];simp only [Bool.not_true,Bool.or_self,cond_false];rw [YJ x.Switches (fun n=>!(YR n)) (fun _ _=>2) (fun k hk=>by
      unfold Qpx;rw [XK hk,cond_true,Xu hk,QB,Qwl,QB,XE k (by omega)]) (by
      unfold Qpx;rw [XM];rfl),QB]
    have ea:x.Switches.any (fun n=>!(YR n))=!(x.Switches.all YR):=by
      rw [List.all_eq_not_any_not,Bool.not_not]
    rcases Zz (p:=fun n=>!(YR n)) (res:=fun _ _=>(2:Int)) x.Switches 0 with ⟨k1,k2⟩ | ⟨j,y,k1,k2,k3⟩
    · rw [k1];rw [ea,Bool.not_eq_false'] at k2;rw [k2,Bool.true_and];simp only [Xn];rw [show Qpy x.Counter=some (JY x.Counter) from rfl,QB];cases JY x.Counter
      · rfl
      · simp only [Bool.not_true,cond_false,cond_true];have:=JF (step:=Qkm p x) (fun n=>((x.Trains.take n).flatMap (·.Chain),(n:Int))) x.Trains.length (Z8 p x) (fun _ e=>e) () (fun n hn _=>by
          have hs:Z8 p x n=tsE p x n x.Trains[n]:=Zw _ _ _ hn;have hf:∀ m,m<=x.Trains.length->((x.Trains.take m).flatMap (·.Chain)).length<=1000 * m:=fun m=>by
            induction m with
            | zero=>intro _;simp
            | succ m ih =>
              intro hm;rw [<-Qhb _ _ (show m < x.Trains.length by omega),List.flatMap_append,List.length_append];have:=ih (by omega);have:=h.ch _ (List.getElem_mem (show m < x.Trains.length by omega));rw [show ([x.Trains[m]]:List LockTrain).flatMap (·.Chain)=x.Trains[m].Chain by simp];omega
          have hc:=h.ch _ (List.getElem_mem hn);rw [hs];unfold Qkm tsE;simp only [XK hn,cond_true,Xu hn,QB,Qda];have eu:(((decide ((x.Trains[n].Chain.length:Int)=0))&&(!decide (x.Trains[n].Under=0)))||((decide (0 < (x.Trains[n].Chain.length:Int)))&&(!(decide (1<=x.Trains[n].Under)&&decide (x.Trains[n].Under<=(x.Trains[n].Chain.length:Int))))))=!(Jv x.Trains[n]):=by
            unfold Jv;by_cases h0:x.Trains[n].Chain.length=0
            · rw [if_pos h0,decide_eq_true (show (x.Trains[n].Chain.length:Int)=0 by omega),decide_eq_false (show ¬ (0:Int) < x.Trains[n].Chain.length by omega)];simp
            · rw [if_neg h0,decide_eq_false (show ¬ (x.Trains[n].Chain.length:Int)=0 by omega),decide_eq_true (show (0:Int) < x.Trains[n].Chain.length by omega)];simp
          by_cases h0:x.Trains[n].Chain.length=0
          · have g1:decide ((x.Trains[n].Chain.length:Int)=0)=true:=decide_eq_true (by omega);have g2:decide ((0:Int) < x.Trains[n].Chain.length)=false:=decide_eq_false (by omega);rw [g1,g2] at eu ⊢;simp only [Bool.and_false,cond_false,QB,Bool.false_and,Bool.or_false] at eu ⊢;rw [eu];cases Jv x.Trains[n]
            · rfl
            · simp only [Bool.not_true,cond_false,cond_true];rw [Qwm hS hp h hl.1 n hn (hf n (by omega)),QB];cases hfe:Xx (ZN p x n x.Trains[n]) x.Trains[n].Chain.length with
              | some k=>rw [if_neg (JB hfe).2.1];rfl
              | none=>rw [if_pos rfl];simp only [Xn];rw [XE n (by omega)]
          · have g1:decide ((x.Trains[n].Chain.length:Int)=0)=false:=decide_eq_false (by omega);have g2:decide ((0:Int) < x.Trains[n].Chain.length)=true:=decide_eq_true (by omega);rw [g1,g2] at eu ⊢;simp only [Bool.false_and,Bool.not_false,Bool.and_true,cond_true,QB] at eu ⊢;rw [eu];cases Jv x.Trains[n]
            · rfl
            · simp only [Bool.not_true,cond_false,cond_true];rw [Qwm hS hp h hl.1 n hn (hf n (by omega)),QB];cases hfe:Xx (ZN p x n x.Trains[n]) x.Trains[n].Chain.length with
              | some k=>rw [if_neg (JB hfe).2.1];rfl
              | none=>rw [if_pos rfl];simp only [Xn];rw [XE n (by omega)]) (fun _=>by
          unfold Qkm;simp only [XM];rfl)
        simp only [List.take_zero,List.flatMap_nil,Int.natCast_zero] at this;rw [this,QB];cases Xx (Z8 p x) x.Trains.length<;>rfl
    · rw [k1];rw [ea,Bool.not_eq_true'] at k3;rw [k3];rfl
  · rw [if_neg hl, show (!decide ((x.Switches.length : Int) = p.Switches.length) || !decide ((x.Trains.length : Int) = p.Trains.length)) = true by
      simp only [Bool.or_eq_true,Bool.not_eq_true',decide_eq_false_iff_not];omega]
    rfl
end Go.Gw

end
section
set_option maxRecDepth 4096
namespace Go.Gw
open Go
attribute [local irreducible] loop
/-! ### All events -/
/-! ### What lies in a list and meets a test -/
def J2 {α β:Type} (p:α->Bool) (g:Nat->α->β):Nat->List α->List β
 | _,[]=>[]
 | k,x::l=>if p x=true then g k x::J2 p g (k+1) l else J2 p g (k+1) l
theorem Quw {α β σ ρ:Type} {step:σ->Option (σ⊕ρ)} (l:List α) (p:α->Bool) (g:Nat->α->β) (S:List β->Nat->σ) (o:List β->ρ)
  (hs:∀ k (hk:k < l.length) acc,acc.length<=k->step (S acc k)=some (.inl (S (if p l[k]=true then acc++[g k l[k]] else acc) (k+1)))) (he:∀ acc,step (S acc l.length)=some (.inr (o acc))):loop step (S [] 0)=some (o (J2 p g 0 l)):=by
 have key:∀ j k acc,acc.length<=k->j+k=l.length->loop step (S acc k)=some (o (acc++J2 p g k (l.drop k))):=by
  intro j
  induction j with
  | zero =>
   intro k acc _ hk;obtain rfl:k=l.length:=by omega
   rw [List.drop_length];simp only [J2,List.append_nil];exact Qfq (he acc)
  | succ j ih =>
   intro k acc ha hk;have hlt:k < l.length:=by omega
   rw [List.drop_eq_getElem_cons hlt,Qjv (hs k hlt acc ha)];by_cases hp:p l[k]=true
   ·rw [if_pos hp,ih (k+1) _ (by simp;omega) (by omega)];simp [J2,hp]
   ·rw [if_neg hp,ih (k+1) _ (by omega) (by omega)];simp [J2,hp]
 have:=key l.length 0 [] (by simp) (by omega);simpa using this
def Qdo (p:LockPlant) (x:LockState):List Int:=J2 (fun s:LockSwitch=>ZR x s.Section) (fun k _=>(k:Int)) 0 p.Switches
theorem QMc {p:LockPlant} (hS:PlantS p) {x:LockState} (h:StateS x):Qkk p x=some (Qdo p x):=by
 have h1:=hS.sw;unfold Qkk Qdo;have:=Quw (step:=Qgc p x) p.Switches (fun s:LockSwitch=>ZR x s.Section) (fun k _=>(k:Int)) (fun acc k=>(acc,(k:Int))) (fun acc=>acc) (fun k hk acc ha=>by
  unfold Qgc;simp only [XK hk,cond_true,Xu hk,QB,Qwn h,Qis];cases ZR x p.Switches[k].Section
  ·simp only [cond_false,Bool.false_eq_true,if_false,XE k (show k < 4611686018427387904 by omega)]
  ·simp only [cond_true,if_true];rw [Qas (by simp;omega),QB,XE k (by omega)]) (fun acc=>by
  unfold Qgc;simp only [XM];rfl)
 have l2:loop (Qgc p x) (([]:List Int),0)=_:=this;rw [l2];rfl
end Go.Gw

end
section
set_option maxRecDepth 4096
namespace Go.Gw
open Go
attribute [local irreducible] loop
theorem Qya {α:Type} {p:α->Bool}:∀ (l:List α) (m:Nat),(XZ p (fun k _=>(k:Int)) m l=.inr ()/\l.any p=false)\/∃ j,∃ h:j < l.length,XZ p (fun k _=>(k:Int)) m l=.inl ((m+j:Nat):Int)/\p l[j]=true
 | [],m=>.inl ⟨rfl,rfl⟩
 | x::l,m=>by
  by_cases hp:p x=true
  ·exact .inr ⟨0,by simp,by simp [XZ,hp],by simpa using hp⟩
  ·rcases Qya (p:=p) l (m+1) with ⟨h1,h2⟩ | ⟨j,hj,h1,h2⟩
   ·exact .inl ⟨by simp [XZ,hp,h1],by simp [hp,h2]⟩
   ·exact .inr ⟨j+1,by simpa using hj,by simp only [XZ,hp];rw [h1];simp;omega,by simpa using h2⟩
theorem QEw {α:Type} (p:α->Bool) (l:List α):(JO p l=-1/\l.any p=false)\/∃ j,∃ h:j < l.length,JO p l=(j:Int)/\p l[j]=true:=by
 unfold JO;rcases Qya (p:=p) l 0 with ⟨h1,h2⟩ | ⟨j,hj,h1,h2⟩
 ·exact .inl ⟨by rw [h1],h2⟩
 ·exact .inr ⟨j,hj,by rw [h1];simp,h2⟩
theorem Qvw {α:Type} {l:List α} (h:l.Nodup) {i j:Nat} (hi:i < l.length) (hj:j < l.length) (e:l[i]=l[j]):i=j:=by
 unfold List.Nodup at h;rw [List.pairwise_iff_getElem] at h;rcases Nat.lt_trichotomy i j with h1 | h1 | h1
 ·exact absurd e (h i j hi hj h1)
 ·exact h1
 ·exact absurd e.symm (h j i hj hi h1)
theorem QFb {p:LockPlant} (hp:PlantOk p) {x:LockState} (h2:x.Switches.length=p.Switches.length) (a b:Int):Qjk (some ⟨p,x⟩) a b=some (J3 p x.Switches a b):=by
  have hw4:=hp.w4;have hr10:=hp.r10;have hs8:=hp.s8;unfold Qjk J3;rw [QB,YJ p.Routes (fun r=>ZJ r a b&&Zx p x.Switches r [a,b]) (fun _ _=>true),QB]
  · rcases Zz (p:=fun r=>ZJ r a b&&Zx p x.Switches r [a,b]) (res:=fun _ _=>true) p.Routes 0 with ⟨k1,k2⟩ | ⟨j,y,k1,k2,k3⟩
    · rw [k1,k2];rfl
    · rw [k1,k3];rfl
  · intro k hk;have hr:=List.getElem_mem hk;unfold Qon;simp only [XK hk,cond_true,Xu hk,QB];generalize p.Routes[k]=r at hr ⊢;have hr2:=hp.r2 r hr;have hr8:=hp.r8 r hr;have hrd:=hp.rd r hr;rw [Qtx _ _ (by omega),QB,QFn (hp.rn r hr) h2 (by omega) (by simp),XE k (by omega)];rcases QEw (fun x=>decide (a=x)) r.Sections with ⟨h3,h4⟩ | ⟨j,hj,h3,h4⟩
    · rw [h3];have h5:ZJ r a b=false:=by
        cases hb:ZJ r a b with
        | false=>rfl
        | true =>
          obtain ⟨j,hj,h6,_⟩:=pairB_iff.1 hb;rw [Qsb,decide_eq_false_iff_not] at h4;exact absurd (h6▸List.getElem_mem _) h4
      rw [h5];rfl
    · rw [h3];have h4:a=r.Sections[j]:=by simpa using h4
      rw [decide_eq_true (show (0:Int)<=(j:Int) by omega),XE j (by omega)];by_cases h5:j+1 < r.Sections.length
      · rw [XK h5];simp only [Bool.and_self,cond_true];rw [Xu h5,QB];have h6:ZJ r a b=decide (r.Sections[j+1]=b):=by
          rw [Bool.eq_iff_iff,pairB_iff,decide_eq_true_eq];constructor
          · rintro ⟨i,hi,h7,h8⟩;have:i=j:=Qvw hrd (by omega) hj (h7.trans h4);subst this;exact h8
          · intro h7;exact ⟨j,h5,h4.symm,h7⟩
        rw [h6];cases decide (r.Sections[j+1]=b)<;>rfl
      · rw [decide_eq_false (show ¬ ((j+1:Nat):Int) < r.Sections.length by omega)];have h6:ZJ r a b=false:=by
          cases hb:ZJ r a b with
          | false=>rfl
          | true =>
            obtain ⟨i,hi,h7,_⟩:=pairB_iff.1 hb;have:i=j:=Qvw hrd (by omega) hj (h7.trans h4);omega
        rw [h6];rfl
  · unfold Qon;simp only [XM];rfl
theorem Qti {α:Type} (g:α->Bool):∀ (l:List α) (k:Nat) (b:Bool),JM (fun (_:Nat) (a:Bool) (x:α)=>a||g x) k b l=(b||l.any g)
 | [],k,b=>by simp [JM]
 | x::l,k,b=>by
  unfold JM;rw [Qti g l];simp [Bool.or_assoc]
theorem QAw (l:List LockTrain) (h:∀ t∈l,t.Chain.length < 1000) (hl:l.length < 1000) (s:Int) (b:Bool):loop (Qfh s l) (b,0)=some (b||l.any fun o=>decide (s∈o.Chain)):=by
 have:=(Qux (step:=Qfh s l) l (fun _ (c:Bool) o=>c||decide (s∈o.Chain)) (fun c k=>(c,(k:Int))) (fun c=>c) (fun _ _=>True) b trivial (fun k hk c _=>by
  refine ⟨?_,trivial⟩;unfold Qfh;simp only [XK hk,cond_true,Xu hk,QB,XE k (show k < 4611686018427387904 by omega),Qdb _ _ (show l[k].Chain.length < 1000000 by have:=h _ (List.getElem_mem hk);omega)];cases c<;>rfl) (fun c _=>by
  unfold Qfh;simp only [XM];rfl)).1
 rw [Qti] at this;exact this
theorem QQu (t:LockTrain):Z0 t.Under (if (t.Chain.length:Int) < 1 then (t.Chain.length:Int) else 1) (t.Chain.length:Int)=some (Jv t):=by
 rw [Qri];congr 1;unfold Jv;by_cases h0:t.Chain.length=0
 ·rw [if_pos h0,if_pos (show (t.Chain.length:Int) < 1 by omega),Bool.eq_iff_iff];simp only [Bool.and_eq_true,decide_eq_true_eq];omega
 ·rw [if_neg h0,if_neg (show ¬ (t.Chain.length:Int) < 1 by omega)]
theorem QEy {p:LockPlant} (hS:PlantS p) (hp:PlantOk p) {x:LockState} (h:StateS x) (h2:x.Switches.length=p.Switches.length) (n:Nat) (hn:n < x.Trains.length):Qjj (some ⟨p,x⟩) (n:Int)=some (Z8 p x n):=by
  have hs:Z8 p x n=tsE p x n x.Trains[n]:=Zw _ _ _ hn;have hc:=h.ch _ (List.getElem_mem hn);have hl:=h.tr;rw [hs];unfold Qjj tsE;simp only [QB,Xu hn];rw [QQu,QB];cases Jv x.Trains[n]
  · rfl
  simp only [Bool.not_true,cond_false,cond_true];have key:loop (Qji x.Trains[n] (some ⟨p,x⟩) (n:Int)) 0=some (match Xx (ZN p x n x.Trains[n]) x.Trains[n].Chain.length with | some i=>.inl (ZN p x n x.Trains[n] i) | none=>.inr ()) :=
    JF (fun k=>(k:Int)) x.Trains[n].Chain.length (ZN p x n x.Trains[n]) (fun _ e=>e) () (fun k hk _=>by
      have hs:ZN p x n x.Trains[n] k=JZ p x n x.Trains[n] k x.Trains[n].Chain[k]:=Zw _ _ _ hk;rw [hs];unfold Qji JZ;simp only [XK hk,cond_true,Xu hk,QB];rw [Qdc (by omega),QB,Qdb _ _ (by simp;omega),QB,Qdc (by omega),QB,
        QAw _ (fun t ht=>h.ch t (List.mem_of_mem_take ht)) (by simp;omega),QB,Qxl hS,QB,Y7,QB,XE k (by omega)]
      generalize (decide (x.Trains[n].Chain[k]∈x.Trains[n].Chain.take k)||(x.Trains.take n).any fun o=>decide (x.Trains[n].Chain[k]∈o.Chain))=bb;by_cases hk0:k=0
      · subst hk0;simp only [Int.natCast_zero,decide_true,Bool.not_true,cond_false,QB,Bool.true_or,if_true,Y7,cond_true];rw [ZZ _ (by simp),QB,Qfc];cases X9 p x.Trains[n].Chain[0]<;>cases bb<;>rfl
      · rw [decide_eq_false (show ¬ (k : Int) = 0 by omega), show w64 ((k : Int) - 1) = ((k - 1 : Nat) : Int) by rw [Jc (by omega)]; omega,
          show (if (0:Int) < ((k - 1:Nat):Int) then ((k - 1:Nat):Int) else 0)=((k - 1:Nat):Int) by split<;>omega]
        simp only [Bool.not_false,cond_true,Xu (show k - 1 < x.Trains[n].Chain.length by omega),QB,QFb hp h2,if_neg hk0,List.getElem?_eq_getElem (show k - 1 < x.Trains[n].Chain.length by omega),Option.getD_some,Bool.false_or,Y7];rw [ZZ _ (by simp),QB,Qfc];cases X9 p x.Trains[n].Chain[k]<;>cases bb<;>cases J3 p x.Switches x.Trains[n].Chain[k - 1] x.Trains[n].Chain[k]<;>rfl) (fun _=>by
      unfold Qji;simp only [XM];rfl)
  rw [key,QB];cases Xx (ZN p x n x.Trains[n]) x.Trains[n].Chain.length<;>rfl
theorem QLt (l:List Int) (hl:l.length < 1000):Qlh l=some (!(l.all YR)):=by
 unfold Qlh Qqp;rw [YJ l (fun n=>!(YR n)) (fun k _=>(k:Int)),QB,Qcl,QB,Qgv]
 ·rw [List.all_eq_not_any_not,Bool.not_not]
 ·intro k hk;unfold Qqo;rw [XK hk,Xu hk,XE k (by omega)];rfl
 ·unfold Qqo;rw [XM];rfl
def Zy (p:LockPlant) (x:LockState):Int:=if (Z4 p).2=0 then Qdz p x else (Z4 p).2
theorem Qpp {p:LockPlant} (hS:PlantS p) {x:LockState} (h:StateS x):Qdm p x=some (if Zy p x=0 then (some ⟨p,x⟩,0) else (none,Zy p x)):=by
  have h1:=h.sw;have h2:=h.tr;have h3:=hS.sw;have h4:=hS.tr;unfold Qdm Zy;rw [QLt _ (by omega),QB,QLs hS,QB,Y7,QB,Bool.not_not];by_cases hp0:(Z4 p).2=0
  · have hp:=Qpr hp0;simp only [if_pos hp0,hp0];unfold Qdz;by_cases hl:x.Switches.length=p.Switches.length/\x.Trains.length=p.Trains.length
    · rw [if_pos hl,decide_eq_true (show (x.Switches.length:Int)=p.Switches.length by omega),decide_eq_true (show (x.Trains.length:Int)=p.Trains.length by omega)];have e1:∀ (f:Bool->Option (Option lock_line×Int)),(Option.bind (bif x.Switches.all YR then Qbd x.Counter else some default) f)=f (bif x.Switches.all YR then JY x.Counter else default):=fun f=>by
        cases x.Switches.all YR<;>rfl
      rw [e1,Y7,QB,ZZ _ (by simp),QB,Qfc];cases ha:x.Switches.all YR
      · rfl
      · cases hb:JY x.Counter
        · rfl
        · simp only [Bool.and_self,cond_true,ne_eq,not_true_eq_false,if_false,decide_true,Bool.not_true,cond_false];have key:loop (Qjo p x) 0=some (match Xx (Z8 p x) x.Trains.length with | some i=>.inl (none,Z8 p x i) | none=>.inr ()) :=
            JF (fun k=>(k:Int)) x.Trains.length (Z8 p x) (fun _ e=>(none,e)) () (fun k hk _=>by
              unfold Qjo;rw [XK hk,cond_true,QEy hS hp h hl.1 k hk,QB,XE k (by omega)];by_cases h5:Z8 p x k=0
              · rw [if_pos h5,decide_eq_true h5];rfl
              · rw [if_neg h5,decide_eq_false h5];rfl) (fun _=>by
              unfold Qjo;rw [XM];rfl)
          rw [key,QB];cases hf:Xx (Z8 p x) x.Trains.length with
          | some i =>
            have h5:=(JB hf).2.1;simp [Xn,h5]
          | none=>rfl
    · rw [if_neg hl, show (decide ((x.Switches.length : Int) = p.Switches.length) && decide ((x.Trains.length : Int) = p.Trains.length)) = false by
        rw [Bool.and_eq_false_iff,decide_eq_false_iff_not,decide_eq_false_iff_not];omega]
      have e1:∀ (f:Bool->Option (Option lock_line×Int)),(Option.bind (bif x.Switches.all YR then Qbd x.Counter else some default) f)=f (bif x.Switches.all YR then JY x.Counter else default):=fun f=>by
        cases x.Switches.all YR<;>rfl
      rw [e1,Y7,QB,ZZ _ (by simp),QB,Qfc];rfl
  · simp only [if_neg hp0];have e1:∀ (f:Bool->Option (Option lock_line×Int)),(Option.bind (bif x.Switches.all YR then Qbd x.Counter else some default) f)=f (bif x.Switches.all YR then JY x.Counter else default):=fun f=>by
      cases x.Switches.all YR<;>rfl
    rw [e1,Y7,QB,ZZ _ (by simp),QB,Qfc,if_pos hp0,decide_eq_false hp0];rfl
theorem Qwd {p:LockPlant} {x:LockState} (h:Zy p x=0):PlantOk p/\StateOk p x/\(Z4 p).2=0:=by
 unfold Zy at h;by_cases hp0:(Z4 p).2=0
 ·rw [if_pos hp0] at h;exact ⟨Qpr hp0,state_iff.1 h,hp0⟩
 ·rw [if_neg hp0] at h;exact absurd h hp0
theorem QFc {p:LockPlant} (hS:PlantS p) {x:LockState} (h:StateS x):Qjg p x=some (if Zy p x=0 then (Qdo p x,0) else ([],Zy p x)):=by
  have h1:=hS.sw;unfold Qjg;rw [Qpp hS h,QB];by_cases h0:Zy p x=0
  · simp only [if_pos h0,decide_true,Bool.not_true,cond_false];have:=Quw (step:=Qff p (some ⟨p,x⟩,0)) p.Switches (fun s:LockSwitch=>ZR x s.Section) (fun k _=>(k:Int)) (fun acc k=>(acc,(k:Int))) (fun acc=>acc) (fun k hk acc ha=>by
      unfold Qff;simp only [XK hk,cond_true,Xu hk,QB,QPx p h _ (show ([p.Switches[k].Section]:List Int).length < 1000 by simp),List.any_cons,List.any_nil,Bool.or_false];cases ZR x p.Switches[k].Section
      · simp only [cond_false,Bool.false_eq_true,if_false,XE k (show k < 4611686018427387904 by omega)]
      · simp only [cond_true,if_true];rw [Qas (by simp;omega),QB,XE k (by omega)]) (fun acc=>by
      unfold Qff;simp only [XM];rfl)
    have l2:loop (Qff p (some ⟨p,x⟩,0)) (([]:List Int),0)=some (Qdo p x):=this;rw [l2];rfl
  · simp only [if_neg h0,decide_eq_false h0,Bool.not_false,cond_true]
theorem QFa {p:LockPlant} (hS:PlantS p) {x:LockState} (h:StateS x) (s:Int):Qjf p x s=some (if Zy p x=0 then (bif X9 p s then ((if 0 < Xy x s then Xy x s else 0),bif ZR x s then 0 else 12) else (0,6)) else (0,Zy p x)):=by
 unfold Qjf;rw [Qpp hS h,QB,Qxl hS,QB,ZZ _ (by simp),QB,Qtn];by_cases h0:Zy p x=0
 ·simp only [if_pos h0,ne_eq,not_true_eq_false,if_false];cases X9 p s
  ·rfl
  ·simp only [cond_true,decide_true,Bool.not_true,cond_false];rw [Qtq p h,QB,Y7,QB,Qis]
 ·simp only [if_neg h0];rw [if_pos h0,decide_eq_false h0];rfl
theorem QEz {p:LockPlant} (hS:PlantS p) {x:LockState} (h:StateS x) (n:Int):Qjd p x n=some (if Zy p x=0 then (bif ZT p n then (match (x.Trains[n.toNat]?.getD ⟨[],0⟩).Chain.getLast? with | some s=>(s,0) | none=>(0,22)) else (0,6)) else (0,Zy p x)):=by
  unfold Qjd;rw [Qpp hS h,QB,QQt hS,QB,ZZ _ (by simp),QB,Qtn];by_cases h0:Zy p x=0
  · obtain ⟨hp,hx,_⟩:=Qwd h0;simp only [if_pos h0,ne_eq,not_true_eq_false,if_false];cases hb:ZT p n
    · rfl
    · simp only [cond_true,decide_true,Bool.not_true,cond_false,QB];unfold ZT at hb;simp at hb;have hl:=hx.tr;have hn:n.toNat < x.Trains.length:=by omega
      rw [Qts hb.1 hn,QB,List.getElem?_eq_getElem hn,Option.getD_some];have hc:=h.ch _ (List.getElem_mem hn);generalize x.Trains[n.toNat]=t at hc ⊢;by_cases h1:t.Chain.length=0
      · rw [decide_eq_true (show (t.Chain.length:Int)=0 by omega),List.length_eq_zero_iff.1 h1];rfl
      · rw [decide_eq_false (show ¬ (t.Chain.length : Int) = 0 by omega), cond_false, show w64 ((t.Chain.length : Int) - 1) = ((t.Chain.length - 1 : Nat) : Int) by rw [Jc (by omega)]; omega, Xu (by omega), QB,
          List.getLast?_eq_getElem?,List.getElem?_eq_getElem (by omega)]
  · simp only [if_neg h0];rw [if_pos h0,decide_eq_false h0];rfl
/-! ### Telegrams -/
end Go.Gw

end
section
set_option maxRecDepth 4096
namespace Go.Gw
open Go
attribute [local irreducible] loop
theorem QAv {p:LockPlant} (hS:PlantS p) {x:LockState} (h:StateS x):Qiz p x=some (Zy p x):=by
 unfold Qiz Zy;rw [QMd hS,QB];by_cases h0:(Z4 p).2=0
 ·rw [if_pos h0,decide_eq_true h0,Bool.not_true,cond_false,QMf hS (Qpr h0) h];rfl
 ·rw [if_neg h0,decide_eq_false h0];rfl
theorem Quc {p:LockPlant} {x:LockState} {F:Bool->Bool->Option Bool} (h0:∀ b,F false b=some true) (h1:F true false=some true) (h2:PlantS p->StateS x->(p.Sections.length<=4\/8 < p.Sections.length)->F true true=some true) :
  (Option.bind (Qdi p) fun r=>Option.bind (bif !(!r) then Qdj x else some default) fun s=>F r s)=some true:=by
 rcases QEa p with ⟨hf,hS,h8⟩ | hf
 ·rw [hf,QB];rcases QEb x with ⟨hx,hX⟩ | hx
  ·simp only [Bool.not_true,Bool.not_false,cond_true];rw [hx,QB];exact h2 hS hX h8
  ·simp only [Bool.not_true,Bool.not_false,cond_true];rw [hx,QB];exact h1
 ·rw [hf,QB];exact h0 _
end Go.Gw

end
