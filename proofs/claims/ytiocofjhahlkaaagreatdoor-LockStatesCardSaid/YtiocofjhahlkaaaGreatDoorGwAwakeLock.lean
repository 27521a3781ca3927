/- Laws of the walk. Condition: each theorem says its own. -/
import Derived.Test.YtiocofjhahlkaaaGreatDoorGwTopA
import Derived.Test.YtiocofjhahlkaaaGreatDoorGwLib21
set_option linter.unusedVariables false
set_option linter.unusedSimpArgs false
set_option linter.unusedSectionVars false
section
set_option maxRecDepth 100000
namespace Go.Gw
open Go
theorem Qzn:Qnn=some true:=by decide +kernel
end Go.Gw

end
section
set_option linter.unusedSectionVars false
namespace Go.Gw
section
variable {α β γ σ ρ:Type}
def XY (p:α->Bool) (res:Nat->α->ρ):Nat->List α->ρ⊕Unit
 | _,[]=>.inr ()
 | k,x::xs=>if p x then .inl (res k x) else XY p res (k+1) xs
theorem YP {step : Int -> Option (Int ⊕ (ρ ⊕ Unit))} (xs : List α) (p : α -> Bool) (res : Nat -> α -> ρ)
  (hs:∀ k (hk:k < xs.length),step (k:Int)=(bif p xs[k] then some (.inr (.inl (res k xs[k]))) else some (.inl ((k+1:Nat):Int))))
  (he:step (xs.length:Int)=some (.inr (.inr ()))):loop step 0=some (XY p res 0 xs):=by
 have key:∀ j k,j+k=xs.length->loop step (k:Int)=some (XY p res k (xs.drop k)):=by
  intro j
  induction j with
  | zero =>
   intro k hk;obtain rfl:k=xs.length:=by omega
   rw [List.drop_length];exact Qje he
  | succ j ih =>
   intro k hk;have hlt:k < xs.length:=by omega
   rw [List.drop_eq_getElem_cons hlt];have:=hs k hlt;cases hp:p xs[k] with
   | true=>rw [hp] at this;simp only [XY,hp,if_true];exact Qje this
   | false=>rw [hp] at this;simp only [XY,hp];rw [Qog this];exact ih (k+1) (by omega)
 have:=key xs.length 0 (by omega);simpa using this

def JK (f:Nat->γ->α->γ):Nat->γ->List α->γ
 | _,a,[]=>a
 | k,a,x::xs=>JK f (k+1) (f k a x) xs
theorem Qty {step : σ -> Option (σ ⊕ β)} (xs : List α) (f : Nat -> γ -> α -> γ) (S : γ -> Nat -> σ) (o : γ -> β) (Inv : γ -> Nat -> Prop) (a0 : γ) (h0 : Inv a0 0)
  (hs:∀ k (hk:k < xs.length) a,Inv a k->step (S a k)=some (.inl (S (f k a xs[k]) (k+1)))/\Inv (f k a xs[k]) (k+1))
  (he:∀ a,Inv a xs.length->step (S a xs.length)=some (.inr (o a))):loop step (S a0 0)=some (o (JK f 0 a0 xs))/\Inv (JK f 0 a0 xs) xs.length:=by
 have key:∀ j k a,j+k=xs.length->Inv a k->loop step (S a k)=some (o (JK f k a (xs.drop k)))/\Inv (JK f k a (xs.drop k)) xs.length:=by
  intro j
  induction j with
  | zero =>
   intro k a hk hI;obtain rfl:k=xs.length:=by omega
   rw [List.drop_length];exact ⟨Qje (he a hI),hI⟩
  | succ j ih =>
   intro k a hk hI;have hlt:k < xs.length:=by omega
   rw [List.drop_eq_getElem_cons hlt];have:=hs k hlt a hI;rw [Qog this.1];exact ih (k+1) _ (by omega) this.2
 have:=key xs.length 0 a0 (by omega) h0;simpa using this

theorem XK (k:Nat) (h:k < 4611686018427387904):w64 ((k:Int)+1)=((k+1:Nat):Int):=by rw [JQ (by omega)];omega
theorem XL {k n:Nat} (h:k < n):decide ((k:Int) < (n:Int))=true:=by simp;omega
theorem XO (n:Nat):decide ((n:Int) < (n:Int))=false:=by simp
end
end Go.Gw

end
section
set_option maxRecDepth 4096
namespace Go.Gw
open Go
def Jh:List Int->Int
 | []=>0
 | x::xs=>if x=0 then Jh xs else x
theorem Jx (l:List Int) (hl:l.length < 1073741824):Zl l=some (Jh l):=by
  unfold Zl;rw [YP l (fun x=>!decide (x=0)) (fun _ x=>x)]
  · have key : ∀ (l : List Int) k, (Xm (XY (fun x => !decide (x = 0)) (fun _ x => x) k l) fun (_ : Unit) => some 0) = some (Jh l) := by
      intro l
      induction l with
      | nil=>intro k;rfl
      | cons x xs ih =>
        intro k;by_cases h:x=0
        · simp [XY,Jh,h];exact ih _
        · simp [XY,Jh,h,Xm]
    simpa using key l 0
  · intro k hk;unfold Qnw;rw [XL hk,Xx hk,XK k (by omega)];rfl
  · unfold Qnw;rw [XO];rfl
theorem Zg (b:Bool) (e:Int):X3 b e=some (bif b then 0 else e):=by cases b<;>rfl
theorem Qqm (n lo hi:Int):ZX n lo hi=some (decide (lo<=n)&&decide (n<=hi)):=rfl
end Go.Gw

end
section
set_option maxRecDepth 4096
namespace Go.Gw
open Go
def Qbq (n:Int):Bool:=decide (0<=n)&&decide (n<=250)
end Go.Gw

end
section
set_option maxRecDepth 4096
namespace Go.Gw
open Go
attribute [local irreducible] loop
end Go.Gw

end
section
set_option maxRecDepth 4096
namespace Go.Gw
open Go
attribute [local irreducible] loop
end Go.Gw

end
section
set_option maxRecDepth 4096
namespace Go.Gw
open Go
attribute [local irreducible] loop
theorem Qku {α:Type} (p:α->Bool):∀ (l:List α) (k:Nat),(Xm (β:=Int) (XY p (fun k _=>(k:Int)) k l) fun (_:Unit)=>some (-1))=some (match XY p (fun k _=>(k:Int)) k l with | .inl i=>i | .inr _=>-1)
 | l,k=>by cases XY p (fun k _=>(k:Int)) k l<;>rfl
theorem Qkt {α:Type} (p:α->Bool):∀ (l:List α) (k:Nat),decide (0<=(match XY p (fun k _=>(k:Int)) k l with | .inl i=>i | .inr _=>(-1:Int)))=l.any p
 | [],k=>by simp [XY]
 | x::xs,k=>by
  by_cases h:p x=true
  ·simp [XY,h]
  ·simp only [XY,h,List.any_cons];have:=Qkt p xs (k+1);simpa [h] using this
theorem Zv {α ρ:Type} {p:α->Bool} {res:Nat->α->ρ}:∀ (l:List α) (k:Nat),(XY p res k l=.inr ()/\l.any p=false)\/∃ j x,XY p res k l=.inl (res j x)/\p x=true/\l.any p=true
 | [],k=>.inl ⟨rfl,rfl⟩
 | x::xs,k=>by
  by_cases h:p x=true
  ·exact .inr ⟨k,x,by simp [XY,h],h,by simp [h]⟩
  ·rcases Zv xs (k+1) (p:=p) (res:=res) with ⟨h1,h2⟩ | ⟨j,y,h1,h2,h3⟩
   ·exact .inl ⟨by simp [XY,h,h1],by simp [h,h2]⟩
   ·exact .inr ⟨j,y,by simp [XY,h,h1],h2,by simp [h3]⟩
def Xz (f:Nat->Int) (n:Nat):Option Nat:=(List.range n).find? fun i=>decide (f i≠0)
theorem Qhv (f:Nat->Int) (n:Nat):(Xz f n=none/\∀ j,j < n->f j=0)\/∃ i,Xz f n=some i/\i < n/\f i≠0/\∀ j,j < i->f j=0:=by
 cases h:Xz f n with
 | none =>
  refine .inl ⟨rfl,fun j hj=>?_⟩;have:=List.find?_eq_none.1 h j (List.mem_range.2 hj);simpa using this
 | some i =>
  right;obtain ⟨h1,h2,h3⟩:=List.find?_range_eq_some.1 h;exact ⟨i,rfl,List.mem_range.1 h2,by simpa using h1,fun j hj=>by have:=h3 j hj;simpa using this⟩
theorem Jz {σ ρ μ : Type} {step : σ -> Option (σ ⊕ (ρ ⊕ μ))} (S : Nat -> σ) (n : Nat) (f : Nat -> Int) (res : Nat -> Int -> ρ) (o : μ)
  (hs:∀ k,k < n->(∀ j,j < k->f j=0)->step (S k)=if f k=0 then some (.inl (S (k+1))) else some (.inr (.inl (res k (f k))))) (he:(∀ j,j < n->f j=0)->step (S n)=some (.inr (.inr o))) :
  loop step (S 0)=some (match Xz f n with | some i=>.inl (res i (f i)) | none=>.inr o):=by
 rcases Qhv f n with ⟨h1,h2⟩ | ⟨i,h1,h2,h3,h4⟩
 ·rw [h1];exact Qjd S n (fun k hk=>by rw [hs k hk fun j hj=>h2 j (by omega),if_pos (h2 k hk)]) (he h2)
 ·rw [h1];exact Qjd S i (fun k hk=>by rw [hs k (by omega) fun j hj=>h4 j (by omega),if_pos (h4 k hk)]) (by rw [hs i h2 h4,if_neg h3])
/-! ### Names -/
def Qeg (q:Int×Nat):Bool:=(!(((decide (97<=q.1))&&(decide (q.1<=122)))||((decide (65<=q.1))&&(decide (q.1<=90)))))&&((decide ((q.2:Int)=0))||((!decide (q.1=45))&&((decide (q.1 < 48))||(decide (57 < q.1)))))
def bi (s:ByteArray):List Int:=bl s
theorem Qhj (s:ByteArray):(bi s).length=s.size:=JH s
theorem Qsq {s:ByteArray} {k:Nat} (h:k < (bi s).length):idx (α:=Int) (bl s) (k:Int)=some (bi s)[k]:=Xx (xs:=bi s) h
def JM (s:ByteArray):Bool:=decide (1<=s.size)&&(decide (s.size<=12)&&!((bi s).zipIdx.any Qeg))
theorem Qwm (s:ByteArray):s=ByteArray.mk #[]↔s.size=0:=by
 constructor
 ·intro h;subst h;rfl
 ·intro h;cases s with
  | mk d =>
   congr 1;exact Array.eq_empty_of_size_eq_zero h
theorem Qmd (s:ByteArray):Qct s=some (JM s):=by
  unfold Qct JM;have hlen:(bi s).zipIdx.length=s.size:=by rw [List.length_zipIdx,Qhj]
  by_cases h:1<=s.size/\s.size<=12
  · have : (decide ((s.size : Int) < 1) || decide (12 < (s.size : Int))) = false := by
      rw [decide_eq_false (by omega),decide_eq_false (by omega)];rfl
    rw [this,cond_false,YP (bi s).zipIdx Qeg (fun _ _=>false),QB]
    · rcases Zv (p:=Qeg) (res:=fun _ _=>false) (bi s).zipIdx 0 with ⟨k1,k2⟩ | ⟨j,x,k1,k2,k3⟩
      · rw [k1,k2];simp [h,Xm]
      · rw [k1,k3];simp [Xm]
    · intro k hk;rw [hlen] at hk;unfold Qmj;rw [XL hk,cond_true,Qsq (show k < (bi s).length by rw [Qhj];exact hk),QB,XK k (by omega)];simp only [List.getElem_zipIdx,Nat.zero_add];rfl
    · rw [hlen];unfold Qmj;rw [XO];rfl
  · have : (decide ((s.size : Int) < 1) || decide (12 < (s.size : Int))) = true := by
      by_cases h1:s.size < 1
      · rw [decide_eq_true (by omega)];rfl
      · rw [decide_eq_true (p:=12 < (s.size:Int)) (by omega)];simp
    rw [this,cond_true];congr 1;by_cases h1:1<=s.size
    · rw [decide_eq_false (p:=s.size<=12) (by omega)];simp
    · rw [decide_eq_false h1];rfl
theorem Qni (s:ByteArray) (hs:s.size<=1000):Qde s=some (JM s):=by
 unfold Qde JM;have hlen:(bi s).zipIdx.length=s.size:=by rw [List.length_zipIdx,Qhj]
 have ht:tob s=some (bl s):=by unfold tob;rw [if_pos (by omega)]
 rw [ht,QB,YP (bi s).zipIdx Qeg (fun _ _=>false),QB]
 ·rcases Zv (p:=Qeg) (res:=fun _ _=>false) (bi s).zipIdx 0 with ⟨k1,k2⟩ | ⟨j,x,k1,k2,k3⟩
  ·rw [k1,k2];simp only [Xm,Bool.not_false,Bool.and_true,Option.some.injEq];by_cases h0:s.size=0
   ·rw [decide_eq_true ((Qwm s).2 h0),decide_eq_false (show ¬ 1<=s.size by omega)];rfl
   ·rw [decide_eq_false (fun e=>h0 ((Qwm s).1 e)),decide_eq_true (show 1<=s.size by omega)];simp only [Bool.not_false,Bool.true_and];by_cases h1:s.size<=12
    ·rw [decide_eq_true h1,decide_eq_true (by omega)]
    ·rw [decide_eq_false h1,decide_eq_false (by omega)]
  ·rw [k1,k3];simp [Xm]
 ·intro k hk;rw [hlen] at hk;have hk2:k < (bl s).length:=by rw [JH];exact hk
  unfold Qnz;rw [XL hk2,cond_true,Qsq (show k < (bi s).length by rw [Qhj];exact hk),QB,XK k (by omega)];simp only [List.getElem_zipIdx,Nat.zero_add];rfl
 ·rw [hlen,show (s.size:Int)=((bl s).length:Int) by rw [JH]];unfold Qnz;rw [XO];rfl
theorem Qem (n lo hi:Int):Jr n lo hi=some (decide (lo<=n)&&decide (n<=hi)):=rfl
theorem Qeu (a b c:Int):Jh [a,b,c]=if a≠0 then a else if b≠0 then b else c:=by
 unfold Jh Jh Jh Jh;by_cases h:a=0<;>by_cases h2:b=0<;>by_cases h3:c=0<;>simp [h,h2,h3]
theorem Qmx {α:Type} [DecidableEq α]:∀ (a b:List α) (hl:a.length=b.length) (k:Nat),(Xm (XY (fun (x:α×α)=>!decide (x.1=x.2)) (fun _ _=>false) k (a.zip b)) fun (_:Unit)=>some true)=some (decide (a=b))
 | [],[],_,k=>by simp [XY,Xm]
 | [],_::_,hl,_=>by simp at hl
 | _::_,[],hl,_=>by simp at hl
 | x::a,y::b,hl,k=>by
  by_cases hxy:x=y
  ·subst hxy;have:=Qmx a b (by simpa using hl) (k+1);simp only [List.zip_cons_cons,XY];simpa using this
  ·simp [XY,hxy,Xm]
theorem Qlr {α:Type} {a b:List α} (hl:a.length=b.length):(a.zip b).length=a.length:=by simp [hl]
theorem ZL {α:Type} (l:List α) (f:α->Int) (k:Nat) (hk:k < l.length):(l[k]?.map f).getD 0=f l[k]:=by rw [List.getElem?_eq_getElem hk];rfl
theorem Qxj {α β:Type} (l:List α) (f:α->β) (k:Nat) (hk:k < l.length):(l.take k).map f++[f l[k]]=(l.take (k+1)).map f:=by
 rw [List.take_add_one,List.getElem?_eq_getElem hk,List.map_append];rfl
theorem Qls {α β:Type} {a:List α} {b:List β} (hl:a.length=b.length):(a.zip b).length=a.length:=by simp [hl]
theorem Qcv {α:Type} {xs:List α} {k:Nat} (h:k<=xs.length):cut xs 0 (k:Int)=some (xs.take k):=by
 unfold cut;rw [if_pos (by omega),Int.toNat_natCast];rfl
theorem Qre {α:Type} [DecidableEq α] (l:List α) (v:α):(l.any fun x=>decide (v=x))=decide (v∈l):=by
 rw [Bool.eq_iff_iff];simp
theorem Qrf {α:Type} [DecidableEq α] (l:List α) (v:α):(l.any fun x=>decide (x=v))=decide (v∈l):=by
 rw [Bool.eq_iff_iff];simp
def J9 {α:Type} (p:α->Bool) (l:List α):Int:=match XY p (fun k _=>(k:Int)) 0 l with | .inl i=>i | .inr _=>(-1:Int)
theorem Qsx {α:Type} (p:α->Bool) (l:List α):decide (0<=J9 p l)=l.any p:=Qkt p l 0
theorem Qsw (l:List Int) (v:Int) (hl:l.length < 1000000):Qgh l v=some (J9 (fun x=>decide (v=x)) l):=by
 unfold Qgh J9;rw [YP l (fun x=>decide (v=x)) (fun k _=>(k:Int)),QB,Qku]
 ·intro k hk;unfold Qpw;rw [XL hk,Xx hk,XK k (by omega)];rfl
 ·unfold Qpw;rw [XO];rfl
theorem Qep (l:List Int) (v:Int) (hl:l.length < 1000000):J2 l v=some (decide (v∈l)):=by
 unfold J2;rw [Qsw l v hl,QB,Qsx,Qre]
end Go.Gw

end
section
set_option maxRecDepth 4096
namespace Go.Gw
open Go
attribute [local irreducible] loop
def Zd (s:ByteArray) (others:List ByteArray):Int:=bif JM s then (bif Yo others s then 5 else 0) else 4
def YX (l:List ByteArray) (k:Nat):Int:=(l[k]?.map fun s=>Zd s (l.take k)).getD 0
def YO (p:LockPlant) (n:Int):Bool:=decide (0<=n)&&decide (n<=(p.Sections.length:Int) - 1)
def swX (p:LockPlant) (k:Nat) (s:LockSwitch):Int:=bif YO p s.Section then (bif (p.Switches.take k).any (fun o=>decide (o.Section=s.Section)) then 26 else 0) else 6
def swE (p:LockPlant) (k:Nat) (s:LockSwitch):Int:=if Zd s.Name ((p.Switches.take k).map (·.Name))=0 then swX p k s else Zd s.Name ((p.Switches.take k).map (·.Name))
def Zf (p:LockPlant) (k:Nat):Int:=(p.Switches[k]?.map (swE p k)).getD 0
def rsE (p:LockPlant) (r:LockRoute) (k:Nat) (s:Int):Int:=bif YO p s then (bif decide (s∈r.Sections.take k) then 26 else 0) else 6
def Z1 (p:LockPlant) (r:LockRoute) (k:Nat):Int:=(r.Sections[k]?.map (rsE p r k)).getD 0
def JN (r:LockRoute) (q:Int×LockSwitch):Bool:=bif decide (q.2.Section∈r.Sections) then !(decide (q.1=0)||decide (q.1=1)) else !decide (q.1=-1)
def rtX (p:LockPlant) (r:LockRoute):Int :=
 if r.Sections.length < 2 then 10 else if p.Sections.length < r.Sections.length then 8 else
 match Xz (Z1 p r) r.Sections.length with
 | some i=>Z1 p r i
 | none=>if r.Needs.length=p.Switches.length then (bif (r.Needs.zip p.Switches).any (JN r) then 2 else 0) else 10
def rtE (p:LockPlant) (k:Nat) (r:LockRoute):Int:=if Zd r.Name ((p.Routes.take k).map (·.Name))=0 then rtX p r else Zd r.Name ((p.Routes.take k).map (·.Name))
def Ze (p:LockPlant) (k:Nat):Int:=(p.Routes[k]?.map (rtE p k)).getD 0
def ZO (p:LockPlant):LockMark×Int :=
 if p.Sections.length=0\/p.Trains.length=0 then (LockMark.mk 0 0,10) else if 8 < p.Sections.length\/3 < p.Trains.length\/4 < p.Switches.length\/10 < p.Routes.length then (LockMark.mk 0 0,8) else
 match Xz (YX p.Sections) p.Sections.length with
 | some i=>(LockMark.mk 1 i,YX p.Sections i)
 | none=>match Xz (YX p.Trains) p.Trains.length with
  | some i=>(LockMark.mk 2 i,YX p.Trains i)
  | none=>match Xz (Zf p) p.Switches.length with
   | some i=>(LockMark.mk 3 i,Zf p i)
   | none=>match Xz (Ze p) p.Routes.length with
    | some i=>(LockMark.mk 4 i,Ze p i)
    | none=>(LockMark.mk 0 0,0)
structure PlantS (p:LockPlant):Prop where
 se:p.Sections.length < 1000
 tr:p.Trains.length < 1000
 sw:p.Switches.length < 1000
 ro:p.Routes.length < 1000
 sn:∀ s∈p.Sections,s.size<=1000
 tn:∀ s∈p.Trains,s.size<=1000
 wn:∀ s∈p.Switches,s.Name.size<=1000
 rn:∀ r∈p.Routes,r.Name.size<=1000/\r.Sections.length < 1000/\r.Needs.length < 1000
theorem Qng {α:Type} (l:List α) (f:α->ByteArray) (k:Nat) (hk:k < l.length) (h:Yo ((l.take k).map f) (f l[k])=false):ZB ((l.take k).map f) (f l[k])=(l.take (k+1)).map f:=by
 unfold ZB;rw [h,if_neg (by simp),Qxj l f k hk]
theorem Qok (s:ByteArray) (others:List ByteArray):Jh [bif JM s then 0 else 4,bif !(Yo others s) then 0 else 5]=Zd s others:=by
 unfold Zd;cases JM s<;>cases Yo others s<;>rfl
theorem Qol {s:ByteArray} {others:List ByteArray} (h:Zd s others=0):Yo others s=false:=by
 unfold Zd at h;cases h1:Yo others s with
 | false=>rfl
 | true=>rw [h1] at h;cases h2:JM s<;>rw [h2] at h<;>cases h
theorem QAj {n m:Int} (h:n≠m):decide (n=m)=false:=decide_eq_false h
theorem Quf (l:List ByteArray) (mark:Int) (hl:l.length < 1000) (hn:∀ s∈l,s.size<=1000):Qfd mark l=some (match Xz (YX l) l.length with | some i=>(LockMark.mk mark i,YX l i) | none=>(LockMark.mk 0 0,0)):=by
 unfold Qfd;have key:loop (Qfc l mark) (0,[])=some (match Xz (YX l) l.length with | some i=>.inl (LockMark.mk mark i,YX l i) | none=>.inr ()):=by
  refine Jz (step:=Qfc l mark) (fun k=>((k:Int),(l.take k).map id)) l.length (YX l) (fun i e=>(LockMark.mk mark i,e)) () (fun k hk _=>?_) (fun _=>?_)
  ·have hs:YX l k=Zd l[k] (l.take k):=ZL _ _ _ hk;have hi:=fun h=>Qng l id k hk h
   simp only [List.map_id,id_eq] at hi ⊢;rw [hs];unfold Qfc;simp only [XL hk,cond_true,Xx hk,QB];rw [show Qob l[k]=some l[k] from rfl,QB,Qni _ (hn _ (List.getElem_mem hk)),QB];simp only [Zg,QB];rw [Jx _ (by simp),QB,Qok];by_cases h:Zd l[k] (l.take k)=0
   ·rw [if_pos h,h,hi (Qol h),XK k (by omega)];rfl
   ·rw [if_neg h,QAj h];rfl
  ·unfold Qfc;simp only [XO];rfl
 rw [key,QB];cases Xz (YX l) l.length<;>rfl
theorem Qzz (l:List LockSwitch) (s:LockSwitch) (hl:l.length < 1000):Qkr l s=some (l.any fun o=>decide (o.Section=s.Section)):=by
 unfold Qkr Qpt;rw [YP l (fun o=>decide (o.Section=s.Section)) (fun k _=>(k:Int)),QB,Qku,QB,Qkt]
 ·intro k hk;unfold Qps;rw [XL hk,Xx hk,XK k (by omega)];rfl
 ·unfold Qps;rw [XO];rfl
theorem Qwi (p:LockPlant) (hp:p.Sections.length < 1000) (n:Int):ZX n 0 (w64 ((p.Sections.length:Int) - 1))=some (YO p n):=by
 rw [Qqm,JQ (by omega)];rfl
theorem QOt {p:LockPlant} (h:PlantS p) (k:Nat) (hk:k < p.Switches.length):Qjc p k=some (swX p k p.Switches[k]):=by
 have h1:=h.sw;unfold Qjc swX;rw [Xx hk,QB,Qcv (by omega),QB,Qzz _ _ (by simp;omega),QB,Qwi p h.se,QB,Zg,QB,Zg,QB,Jx _ (by simp),QB];cases YO p p.Switches[k].Section<;>cases (p.Switches.take k).any (fun o=>decide (o.Section=p.Switches[k].Section))<;>rfl
theorem QOv {p:LockPlant} (h:PlantS p):Qiw 3 p.Switches p=some (match Xz (Zf p) p.Switches.length with | some i=>(LockMark.mk 3 i,Zf p i) | none=>(LockMark.mk 0 0,0)):=by
 have hl:=h.sw;unfold Qiw;have key:loop (Qfb p p.Switches 3) (0,[])=some (match Xz (Zf p) p.Switches.length with | some i=>.inl (LockMark.mk 3 i,Zf p i) | none=>.inr ()):=by
  refine Jz (step:=Qfb p p.Switches 3) (fun k=>((k:Int),(p.Switches.take k).map (·.Name))) p.Switches.length (Zf p) (fun i e=>(LockMark.mk 3 i,e)) () (fun k hk _=>?_) (fun _=>?_)
  ·have hs:Zf p k=swE p k p.Switches[k]:=ZL _ _ _ hk;have hi:=fun h=>Qng p.Switches (·.Name) k hk h
   rw [hs];unfold Qfb swE;simp only [XL hk,cond_true,Xx hk,QB];rw [show Qnq p.Switches[k]=some p.Switches[k].Name from rfl,QB,Qni _ (h.wn _ (List.getElem_mem hk)),QB];simp only [Zg,QB];rw [Jx _ (by simp),QB,Qok,show Qij (k:Int) p=some (swX p k p.Switches[k]) by unfold Qij;rw [QOt h k hk];rfl];by_cases h1:Zd p.Switches[k].Name ((p.Switches.take k).map (·.Name))=0
   ·simp only [h1,hi (Qol h1),if_true,decide_true,Bool.true_and,cond_true,QB,XK k (show k < 4611686018427387904 by omega)];by_cases h2:swX p k p.Switches[k]=0
    ·simp [h2]
    ·simp [h2]
   ·simp only [h1,if_false,decide_false,Bool.false_and,cond_false,QB,Bool.not_false,cond_true]
  ·unfold Qfb;simp only [XO];rfl
 rw [key,QB];cases Xz (Zf p) p.Switches.length<;>rfl
theorem QLt {p:LockPlant} (h:PlantS p) (r:LockRoute) (hr:r.Sections.length < 1000):loop (Qiz r p) 0=some (match Xz (Z1 p r) r.Sections.length with | some i=>.inl (Z1 p r i) | none=>.inr ()) :=
 Jz (fun k=>(k:Int)) r.Sections.length (Z1 p r) (fun _ e=>e) () (fun k hk _=>by
  have hs:Z1 p r k=rsE p r k r.Sections[k]:=ZL _ _ _ hk;rw [hs];unfold Qiz rsE;rw [XL hk,cond_true,Xx hk,QB,Qcv (by omega),QB,Qwi p h.se,QB,Zg,QB,Qep _ _ (by simp;omega),QB,Zg,QB,Jx _ (by simp),QB,XK k (by omega)];cases YO p r.Sections[k]<;>cases decide (r.Sections[k]∈r.Sections.take k)<;>rfl) (fun _=>by
  unfold Qiz;rw [XO];rfl)
theorem QLs {p:LockPlant} (r:LockRoute) (hr:r.Sections.length < 1000) (hn:r.Needs.length < 1000) (he:r.Needs.length=p.Switches.length):loop (Qja r p) 0=some (XY (JN r) (fun _ _=>(2:Int)) 0 (r.Needs.zip p.Switches)) :=
 YP (r.Needs.zip p.Switches) _ _ (fun k hk=>by
  rw [Qls he] at hk;unfold Qja;rw [XL hk,cond_true,Xx hk,QB,Xx (show k < p.Switches.length by omega),QB,Qep _ _ (by omega),QB,XK k (by omega)];simp only [List.getElem_zip,JN];rw [show Qex r.Needs[k]=some (decide (r.Needs[k]=0)||decide (r.Needs[k]=1)) from rfl];cases decide (p.Switches[k].Section∈r.Sections)<;>rfl) (by
  rw [Qls he];unfold Qja;rw [XO];rfl)
theorem QLw {p:LockPlant} (h:PlantS p) (k:Nat) (hk:k < p.Routes.length):Qjb p k=some (rtX p p.Routes[k]):=by
 obtain ⟨_,hr,hn⟩:=h.rn _ (List.getElem_mem hk);have h1:=h.se;have h2:=h.sw;unfold Qjb rtX;rw [Xx hk,QB,Zg,QB,Zg,QB,Jx _ (by simp),QB];generalize p.Routes[k]=r at hr hn ⊢;by_cases h3:r.Sections.length < 2
 ·rw [if_pos h3,decide_eq_false (show ¬ (2<=(r.Sections.length:Int)) by omega)];rfl
 rw [if_neg h3,decide_eq_true (show 2<=(r.Sections.length:Int) by omega)];by_cases h4:p.Sections.length < r.Sections.length
 ·rw [if_pos h4,decide_eq_false (show ¬ ((r.Sections.length:Int)<=p.Sections.length) by omega)];rfl
 rw [if_neg h4,decide_eq_true (show (r.Sections.length:Int)<=p.Sections.length by omega),QLt h r hr];simp only [Jh,cond_true,if_true,decide_true,Bool.not_true,cond_false,QB];cases Xz (Z1 p r) r.Sections.length with
 | some i=>rfl
 | none =>
  simp only [Xm];by_cases h5:r.Needs.length=p.Switches.length
  ·rw [if_pos h5,decide_eq_true (by omega),Bool.not_true,cond_false,QLs r hr hn h5,QB];rcases Zv (p:=JN r) (res:=fun _ _=>(2:Int)) (r.Needs.zip p.Switches) 0 with ⟨k1,k2⟩ | ⟨j,x,k1,k2,k3⟩
   ·rw [k1,k2];rfl
   ·rw [k1,k3];rfl
  ·rw [if_neg h5,decide_eq_false (by omega)];rfl
theorem QMj {p:LockPlant} (h:PlantS p):Qiv 4 p.Routes p=some (match Xz (Ze p) p.Routes.length with | some i=>(LockMark.mk 4 i,Ze p i) | none=>(LockMark.mk 0 0,0)):=by
 have hl:=h.ro;unfold Qiv;have key:loop (Qfa p p.Routes 4) (0,[])=some (match Xz (Ze p) p.Routes.length with | some i=>.inl (LockMark.mk 4 i,Ze p i) | none=>.inr ()):=by
  refine Jz (step:=Qfa p p.Routes 4) (fun k=>((k:Int),(p.Routes.take k).map (·.Name))) p.Routes.length (Ze p) (fun i e=>(LockMark.mk 4 i,e)) () (fun k hk _=>?_) (fun _=>?_)
  ·have hs:Ze p k=rtE p k p.Routes[k]:=ZL _ _ _ hk;have hi:=fun h=>Qng p.Routes (·.Name) k hk h
   rw [hs];unfold Qfa rtE;simp only [XL hk,cond_true,Xx hk,QB];rw [show Qns p.Routes[k]=some p.Routes[k].Name from rfl,QB,Qni _ (h.rn _ (List.getElem_mem hk)).1,QB];simp only [Zg,QB];rw [Jx _ (by simp),QB,Qok,show Qik (k:Int) p=some (rtX p p.Routes[k]) by unfold Qik;rw [QLw h k hk];rfl];by_cases h1:Zd p.Routes[k].Name ((p.Routes.take k).map (·.Name))=0
   ·simp only [h1,hi (Qol h1),if_true,decide_true,Bool.true_and,cond_true,QB,XK k (show k < 4611686018427387904 by omega)];by_cases h2:rtX p p.Routes[k]=0
    ·simp [h2]
    ·simp [h2]
   ·simp only [h1,if_false,decide_false,Bool.false_and,cond_false,QB,Bool.not_false,cond_true]
  ·unfold Qfa;simp only [XO];rfl
 rw [key,QB];cases Xz (Ze p) p.Routes.length<;>rfl
theorem QAa {p:LockPlant} (h:PlantS p):Qil p=some (ZO p):=by
  unfold Qil ZO;rw [Zg,QB,Zg,QB,Jx _ (by simp),QB];by_cases h1:p.Sections.length=0\/p.Trains.length=0
  · rw [if_pos h1, show (decide (0 < (p.Sections.length : Int)) && decide (0 < (p.Trains.length : Int))) = false by
      rcases h1 with h1 | h1
      · rw [decide_eq_false (show ¬ (0 < (p.Sections.length:Int)) by omega)];rfl
      · rw [decide_eq_false (show ¬ (0 < (p.Trains.length:Int)) by omega),Bool.and_false]]
    rfl
  rw [if_neg h1,decide_eq_true (show 0 < (p.Sections.length:Int) by omega),decide_eq_true (show 0 < (p.Trains.length:Int) by omega)];by_cases h2:8 < p.Sections.length\/3 < p.Trains.length\/4 < p.Switches.length\/10 < p.Routes.length
  · rw [if_pos h2, show (((decide (8 < (p.Sections.length : Int)) || decide (3 < (p.Trains.length : Int))) || decide (4 < (p.Switches.length : Int))) || decide (10 < (p.Routes.length : Int))) = true by
      simp only [Bool.or_eq_true,decide_eq_true_eq];omega]
    rfl
  rw [if_neg h2, show (((decide (8 < (p.Sections.length : Int)) || decide (3 < (p.Trains.length : Int))) || decide (4 < (p.Switches.length : Int))) || decide (10 < (p.Routes.length : Int))) = false by
      rw [decide_eq_false (by omega),decide_eq_false (by omega),decide_eq_false (by omega),decide_eq_false (by omega)];rfl]
  unfold Qno Qnp Qnr Qnt;rw [Quf _ _ h.se h.sn,Quf _ _ h.tr h.tn,QOv h,QMj h];have hz:∀ {f:Nat->Int} {n i:Nat},Xz f n=some i->f i≠0:=fun {f n i} hf=>by
    rcases Qhv f n with ⟨k1,_⟩ | ⟨j,k1,_,k3,_⟩
    · rw [k1] at hf;cases hf
    · rw [k1] at hf;cases hf;exact k3
  simp only [Bool.true_and,Bool.not_false,cond_true,Jh,if_true,decide_true,Bool.not_true,cond_false,QB];cases h3:Xz (YX p.Sections) p.Sections.length with
  | some i=>simp [hz h3]
  | none =>
    simp only [decide_true,Bool.not_true,cond_false];cases h4:Xz (YX p.Trains) p.Trains.length with
    | some i=>simp [hz h4]
    | none =>
      simp only [decide_true,Bool.not_true,cond_false];cases h5:Xz (Zf p) p.Switches.length with
      | some i=>simp [hz h5]
      | none =>
        simp only [decide_true,Bool.not_true,cond_false];cases h6:Xz (Ze p) p.Routes.length with
        | some i=>simp [hz h6]
        | none=>simp
theorem Qvi {p:LockPlant} (h:PlantS p):Qav p=some (ZO p).2:=by
 unfold Qav;rw [QAa h];rfl
end Go.Gw

end
section
set_option maxRecDepth 4096
namespace Go.Gw
open Go
attribute [local irreducible] loop
structure StateS (x:LockState):Prop where
 sw:x.Switches.length < 1000
 tr:x.Trains.length < 1000
 ch:∀ t∈x.Trains,t.Chain.length < 1000
def XN (x:LockState) (s:Int):Int:=J9 (fun t:LockTrain=>decide (s∈t.Chain)) x.Trains
def Qqa (x:LockState) (s:Int):Bool:=x.Trains.any fun t=>decide (s∈t.Chain)
def Qew (secs:List Int) (q:LockSwitch×(Int×Int)):Bool:=decide (q.1.Section∈secs)&&!decide (q.2.1=q.2.2)
def Zu (p:LockPlant) (sw:List Int) (r:LockRoute) (secs:List Int):Bool:=!((p.Switches.zip (r.Needs.zip sw)).any (Qew secs))
theorem QNz (α:Type) (p:α->Bool) (l:List α):(Xm (XY p (fun _ _=>false) 0 l) fun (_:Unit)=>some true)=some (!(l.any p)):=by
 rcases Zv (p:=p) (res:=fun _ _=>false) l 0 with ⟨k1,k2⟩ | ⟨j,x,k1,k2,k3⟩
 ·rw [k1,k2];rfl
 ·rw [k1,k3];rfl
theorem QEk {p:LockPlant} {x:LockState} {r:LockRoute} {secs:List Int} (h1:r.Needs.length=p.Switches.length) (h2:x.Switches.length=p.Switches.length) (h3:p.Switches.length < 1000) (hs:secs.length < 1000):Qez (some ⟨p,x⟩) r secs=some (Zu p x.Switches r secs):=by
 unfold Qez Zu;have hlen:(p.Switches.zip (r.Needs.zip x.Switches)).length=p.Switches.length:=by simp [h1,h2]
 rw [QB,YP (p.Switches.zip (r.Needs.zip x.Switches)) (Qew secs) (fun _ _=>false),QB,QNz]
 ·intro k hk;rw [hlen] at hk;unfold Qoe;rw [XL hk,cond_true,Xx hk,QB,Qep _ _ (by omega),QB,XK k (by omega)];simp only [QB];rw [Xx (show k < r.Needs.length by omega),Xx (show k < x.Switches.length by omega)];simp only [List.getElem_zip,Qew,QB];cases decide (p.Switches[k].Section∈secs)<;>rfl
 ·rw [hlen];unfold Qoe;rw [XO];rfl
/-! ### Events -/
def QPu (p:LockPlant) (n:Int):Bool:=decide (0<=n)&&decide (n<=(p.Trains.length:Int) - 1)
def QOu (p:LockPlant) (n:Int):Bool:=decide (0<=n)&&decide (n<=(p.Switches.length:Int) - 1)
def QMi (p:LockPlant) (n:Int):Bool:=decide (0<=n)&&decide (n<=(p.Routes.length:Int) - 1)
def Y6 (n:Int):Bool:=decide (n=0)||decide (n=1)
def Qsf (p:LockPlant) (e:LockEvent):Int :=
 if ¬ (0<=e.Kind/\e.Kind<=6) then 15 else if e.Kind=2 then (bif QOu p e.A then (bif Y6 e.B then 0 else 2) else 6) else
 bif QPu p e.A then (if e.Kind=0 then (bif YO p e.B then 0 else 6) else if e.Kind=1 then (bif QMi p e.B then 0 else 6) else if e.B=0 then 0 else 3) else 6
theorem QEj {n:Int} {k:Nat} (hk:k < 1000):ZX n 0 (w64 ((k:Int) - 1))=some (decide (0<=n)&&decide (n<=(k:Int) - 1)):=by
 rw [Qqm,JQ (by omega)]
theorem QMw {p:LockPlant} (h:PlantS p) (n:Int):Qff p n=some (bif YO p n then 0 else 6):=by
 unfold Qff;rw [QEj h.se,QB,Zg];rfl
def Qba (x:LockState) (e:LockEvent):LockTrain:=x.Trains[e.A.toNat]?.getD ⟨[],0⟩
def QOs (p:LockPlant) (e:LockEvent):LockSwitch:=p.Switches[e.A.toNat]?.getD ⟨ByteArray.mk #[],0⟩
def Qfw (p:LockPlant) (e:LockEvent):LockRoute:=p.Routes[e.B.toNat]?.getD ⟨ByteArray.mk #[],[],[]⟩
def QOa (p:LockPlant) (x:LockState) (e:LockEvent):Int :=
 if e.Kind=2 then (bif Qqa x (QOs p e).Section then 17 else 0) else
 if e.Kind=0 then (if (Qba x e).Chain.length=0 then (bif Qqa x e.B then 17 else 0) else 22) else
 if (Qba x e).Chain.length=0 then 22 else
 if e.Kind=1 then (if (Qfw p e).Sections.head?=(Qba x e).Chain.getLast? then (bif ((Qfw p e).Sections.drop 1).any (Qqa x) then 17 else bif Zu p x.Switches (Qfw p e) (Qfw p e).Sections then 0 else 13) else 23) else
 if e.Kind=4 then (if 1 < (Qba x e).Under then 0 else 12) else
 if e.Kind=3\/e.Kind=5 then (if (Qba x e).Under < (Qba x e).Chain.length then 0 else 12) else
 if (Qba x e).Chain.length=1 then 0 else 17
def trX (p:LockPlant) (t:LockTrain) (e:LockEvent):LockTrain :=
 if e.Kind=0 then ⟨[e.B],1⟩ else if e.Kind=1 then ⟨t.Chain++(Qfw p e).Sections.drop 1,t.Under⟩ else if e.Kind=3 then ⟨t.Chain,t.Under+1⟩ else
 if e.Kind=4 then ⟨t.Chain.drop 1,t.Under - 1⟩ else if e.Kind=5 then ⟨t.Chain.take (t.Chain.length - 1),t.Under⟩ else ⟨[],0⟩
def QOn (p:LockPlant) (x:LockState) (e:LockEvent):LockState :=
 if e.Kind=2 then ⟨x.Switches.set e.A.toNat e.B,x.Trains,x.Counter⟩ else ⟨x.Switches,x.Trains.set e.A.toNat (trX p (Qba x e) e),x.Counter⟩
end Go.Gw

end
section
set_option maxRecDepth 4096
namespace Go.Gw
open Go
attribute [local irreducible] loop
theorem Qna {f:Nat->Int} {n:Nat} (h:Xz f n=none):∀ j,j < n->f j=0:=by
 rcases Qhv f n with ⟨_,h2⟩ | ⟨i,h1,_⟩
 ·exact h2
 ·rw [h1] at h;cases h
theorem J7 {f:Nat->Int} {n i:Nat} (h:Xz f n=some i):i < n/\f i≠0/\∀ j,j < i->f j=0:=by
 rcases Qhv f n with ⟨h1,_⟩ | ⟨j,h1,h2,h3,h4⟩
 ·rw [h1] at h;cases h
 ·rw [h1] at h;cases h;exact ⟨h2,h3,h4⟩
theorem QJs {α:Type} {l:List α} (h:∀ k (hk:k < l.length),l[k]∉l.take k):l.Nodup:=by
 unfold List.Nodup;rw [List.pairwise_iff_getElem];intro i j hi hj hij e;refine h j hj ?_;rw [<-e];exact List.mem_take_iff_getElem.2 ⟨i,by omega,rfl⟩
structure PlantOk (p:LockPlant):Prop where
 s1:1<=p.Sections.length
 s8:p.Sections.length<=8
 t1:1<=p.Trains.length
 t3:p.Trains.length<=3
 w4:p.Switches.length<=4
 r10:p.Routes.length<=10
 ws:∀ s∈p.Switches,YO p s.Section=true
 r2:∀ r∈p.Routes,2<=r.Sections.length
 r8:∀ r∈p.Routes,r.Sections.length<=p.Sections.length
 rs:∀ r∈p.Routes,∀ s∈r.Sections,YO p s=true
 rd:∀ r∈p.Routes,r.Sections.Nodup
 rn:∀ r∈p.Routes,r.Needs.length=p.Switches.length
 rx:∀ r∈p.Routes,(r.Needs.zip p.Switches).any (JN r)=false
theorem Qdm {p:LockPlant} {r:LockRoute} (h:rtX p r=0):2<=r.Sections.length/\r.Sections.length<=p.Sections.length/\(∀ s∈r.Sections,YO p s=true)/\r.Sections.Nodup/\r.Needs.length=p.Switches.length/\(r.Needs.zip p.Switches).any (JN r)=false:=by
 unfold rtX at h;by_cases h1:r.Sections.length < 2
 ·rw [if_pos h1] at h;cases h
 rw [if_neg h1] at h;by_cases h2:p.Sections.length < r.Sections.length
 ·rw [if_pos h2] at h;cases h
 rw [if_neg h2] at h;cases hf:Xz (Z1 p r) r.Sections.length with
 | some i=>rw [hf] at h;exact absurd h (J7 hf).2.1
 | none =>
  rw [hf] at h;have hz:∀ k (hk:k < r.Sections.length),rsE p r k r.Sections[k]=0:=fun k hk=>by
   have:=Qna hf k hk;rwa [show Z1 p r k=rsE p r k r.Sections[k] from ZL _ _ _ hk] at this
  have hz2:∀ k (hk:k < r.Sections.length),YO p r.Sections[k]=true/\r.Sections[k]∉r.Sections.take k:=fun k hk=>by
   have:=hz k hk;unfold rsE at this;cases hb:YO p r.Sections[k] with
   | false=>rw [hb] at this;cases this
   | true =>
    rw [hb,cond_true] at this;refine ⟨rfl,fun hm=>?_⟩;rw [decide_eq_true hm] at this;cases this
  have h3:r.Needs.length=p.Switches.length/\(r.Needs.zip p.Switches).any (JN r)=false:=by
   by_cases h5:r.Needs.length=p.Switches.length
   ·simp only [h5,if_true] at h;refine ⟨h5,?_⟩;cases hb:(r.Needs.zip p.Switches).any (JN r) with
    | false=>rfl
    | true=>rw [hb] at h;cases h
   ·simp only [h5,if_false] at h;cases h
  refine ⟨by omega,by omega,fun s hs=>?_,QJs fun k hk=>(hz2 k hk).2,h3.1,h3.2⟩;obtain ⟨k,hk,rfl⟩:=List.getElem_of_mem hs;exact (hz2 k hk).1
theorem Qvj {p:LockPlant} (h:(ZO p).2=0):PlantOk p:=by
 unfold ZO at h;by_cases h1:p.Sections.length=0\/p.Trains.length=0
 ·rw [if_pos h1] at h;cases h
 rw [if_neg h1] at h;by_cases h2:8 < p.Sections.length\/3 < p.Trains.length\/4 < p.Switches.length\/10 < p.Routes.length
 ·rw [if_pos h2] at h;cases h
 rw [if_neg h2] at h;cases h3:Xz (YX p.Sections) p.Sections.length with
 | some i=>rw [h3] at h;exact absurd h (J7 h3).2.1
 | none =>
  rw [h3] at h;cases h4:Xz (YX p.Trains) p.Trains.length with
  | some i=>rw [h4] at h;exact absurd h (J7 h4).2.1
  | none =>
   rw [h4] at h;cases h5:Xz (Zf p) p.Switches.length with
   | some i=>rw [h5] at h;exact absurd h (J7 h5).2.1
   | none =>
    rw [h5] at h;cases h6:Xz (Ze p) p.Routes.length with
    | some i=>rw [h6] at h;exact absurd h (J7 h6).2.1
    | none =>
     have hr:∀ r∈p.Routes,rtX p r=0:=fun r hr=>by
      obtain ⟨k,hk,rfl⟩:=List.getElem_of_mem hr;have:=Qna h6 k hk;rw [show Ze p k=rtE p k p.Routes[k] from ZL _ _ _ hk] at this;unfold rtE at this;by_cases hn:Zd p.Routes[k].Name ((p.Routes.take k).map (·.Name))=0
      ·rwa [if_pos hn] at this
      ·rw [if_neg hn] at this;exact absurd this hn
     refine ⟨by omega,by omega,by omega,by omega,by omega,by omega,fun s hs=>?_,fun r h=>(Qdm (hr r h)).1,fun r h=>(Qdm (hr r h)).2.1,fun r h=>(Qdm (hr r h)).2.2.1,fun r h=>(Qdm (hr r h)).2.2.2.1,fun r h=>(Qdm (hr r h)).2.2.2.2.1,fun r h=>(Qdm (hr r h)).2.2.2.2.2⟩;obtain ⟨k,hk,rfl⟩:=List.getElem_of_mem hs;have:=Qna h5 k hk;rw [show Zf p k=swE p k p.Switches[k] from ZL _ _ _ hk] at this;unfold swE at this;by_cases hn:Zd p.Switches[k].Name ((p.Switches.take k).map (·.Name))=0
     ·rw [if_pos hn] at this;unfold swX at this;cases hb:YO p p.Switches[k].Section with
      | true=>rfl
      | false=>rw [hb] at this;cases this
     ·rw [if_neg hn] at this;exact absurd this hn
def ZF (r:LockRoute) (a b:Int):Bool:=(r.Sections.zip (r.Sections.drop 1)).any fun q=>decide (q.1=a)&&decide (q.2=b)
def Qbu (p:LockPlant) (sw:List Int) (a b:Int):Bool:=p.Routes.any fun r=>ZF r a b&&Zu p sw r [a,b]
theorem pairB_iff {r:LockRoute} {a b:Int}:ZF r a b=true↔∃ k,∃ hk:k+1 < r.Sections.length,r.Sections[k]=a/\r.Sections[k+1]=b:=by
 unfold ZF;rw [List.any_eq_true];constructor
 ·rintro ⟨q,hq,h⟩;obtain ⟨k,hk,rfl⟩:=List.getElem_of_mem hq;simp only [List.length_zip,List.length_drop] at hk;simp only [List.getElem_zip,List.getElem_drop,Bool.and_eq_true,decide_eq_true_eq] at h;refine ⟨k,by omega,h.1,?_⟩;rw [<-h.2];congr 1;omega
 ·rintro ⟨k,hk,h1,h2⟩;refine ⟨(r.Sections[k],r.Sections[k+1]),?_,by simp [h1,h2]⟩;rw [List.mem_iff_getElem];refine ⟨k,by simp only [List.length_zip,List.length_drop];omega,?_⟩;simp only [List.getElem_zip,List.getElem_drop,Prod.mk.injEq,true_and];congr 1;omega
end Go.Gw

end
section
set_option maxRecDepth 4096
namespace Go.Gw
open Go
attribute [local irreducible] loop
end Go.Gw

end
section
set_option maxRecDepth 4096
namespace Go.Gw
open Go
attribute [local irreducible] loop
def chE (p:LockPlant) (x:LockState) (n:Nat) (t:LockTrain) (k:Nat) (s:Int):Int :=
 bif YO p s then (bif decide (s∈t.Chain.take k)||(x.Trains.take n).any (fun o=>decide (s∈o.Chain)) then 17 else if k=0 then 0 else bif Qbu p x.Switches (t.Chain[k - 1]?.getD 0) s then 0 else 23) else 6
def Jf (p:LockPlant) (x:LockState) (n:Nat) (t:LockTrain) (k:Nat):Int:=(t.Chain[k]?.map (chE p x n t k)).getD 0
def Qbb (t:LockTrain):Bool:=if t.Chain.length=0 then decide (t.Under=0) else decide (1<=t.Under)&&decide (t.Under<=t.Chain.length)
def tsE (p:LockPlant) (x:LockState) (n:Nat) (t:LockTrain):Int:=bif Qbb t then (match Xz (Jf p x n t) t.Chain.length with | some k=>Jf p x n t k | none=>0) else 3
def JB (p:LockPlant) (x:LockState) (n:Nat):Int:=(x.Trains[n]?.map (tsE p x n)).getD 0
def Qkv (p:LockPlant) (x:LockState):Int :=
 if x.Switches.length=p.Switches.length/\x.Trains.length=p.Trains.length then
  (bif x.Switches.all Y6&&Qbq x.Counter then (match Xz (JB p x) x.Trains.length with | some k=>JB p x k | none=>0) else 2) else 10
end Go.Gw

end
section
set_option maxRecDepth 4096
namespace Go.Gw
open Go
attribute [local irreducible] loop
/-! ### The beginning, copies -/
def Qcu (p:LockPlant):LockState:=⟨List.replicate p.Switches.length 0,List.replicate p.Trains.length ⟨[],0⟩,0⟩
theorem Qjf {α:Type} (n:Nat) (z:α) (h:n<=1000):mk (n:Int) z=some (List.replicate n z):=by
 unfold mk;rw [if_pos (by omega),Int.toNat_natCast]
theorem Qzp {p:LockPlant} (h:PlantS p):Qdd p=some (Qcu p):=by
 have h1:=h.sw;have h2:=h.tr;unfold Qdd;rw [Qjf _ _ (by omega),QB,Qjf _ _ (by omega),QB];rfl
end Go.Gw

end
section
set_option maxRecDepth 4096
namespace Go.Gw
open Go
attribute [local irreducible] loop
def Qdx:LockState:=⟨[],[],0⟩
def evE (p:LockPlant) (x:LockState) (e:LockEvent):Int:=if Qsf p e=0 then QOa p x e else Qsf p e
def evs (p:LockPlant):LockState->Nat->List LockEvent->LockState⊕(Nat×Int)
 | x,_,[]=>.inl x
 | x,k,e::l=>if evE p x e=0 then evs p (QOn p x e) (k+1) l else .inr (k,evE p x e)
end Go.Gw

end
section
set_option maxRecDepth 4096
namespace Go.Gw
open Go
attribute [local irreducible] loop
end Go.Gw

end
section
set_option maxRecDepth 4096
namespace Go.Gw
open Go
attribute [local irreducible] loop
end Go.Gw

end
section
set_option maxRecDepth 4096
namespace Go.Gw
open Go
attribute [local irreducible] loop
end Go.Gw

end
section
set_option maxRecDepth 4096
namespace Go.Gw
open Go
attribute [local irreducible] loop
theorem Qne (l:List Int) (v:Int) (hl:l.length < 1000000):Qcs l v=some (decide (v∈l)):=by
 unfold Qcs;rw [YP l (fun x=>decide (x=v)) (fun _ _=>true),QB]
 ·rcases Zv (p:=fun x=>decide (x=v)) (res:=fun _ _=>true) l 0 with ⟨k1,k2⟩ | ⟨j,x,k1,k2,k3⟩
  ·rw [k1,<-Qrf,k2];rfl
  ·rw [k1,<-Qrf,k3];rfl
 ·intro k hk;unfold Qmg;rw [XL hk,Xx hk,XK k (by omega)];rfl
 ·unfold Qmg;rw [XO];rfl
theorem QJw (l:List ByteArray) (s:ByteArray) (hl:l.length < 1000000):Qkc l s=some (J9 (fun x=>decide (x=s)) l):=by
 unfold Qkc J9;rw [YP l (fun x=>decide (x=s)) (fun k _=>(k:Int)),QB,Qku]
 ·intro k hk;unfold Qpi;rw [XL hk,Xx hk,XK k (by omega)];rfl
 ·unfold Qpi;rw [XO];rfl
theorem Quc (l:List ByteArray) (s:ByteArray):(l.any fun x=>decide (x=s))=Yo l s:=by
 unfold Yo;congr 1;funext x;exact decide_eq_decide.2 eq_comm
theorem Qud {α:Type} (f:α->ByteArray) (l:List α) (s:ByteArray):(l.any fun x=>decide (f x=s))=Yo (l.map f) s:=by
 rw [<-Quc,List.any_map];rfl
theorem Qvm (l:List ByteArray) (hl:l.length < 1000):Qfu l=some (match Xz (YX l) l.length with | some i=>((i:Int),YX l i) | none=>(0,0)):=by
 unfold Qfu;have key:loop (Qft l) 0=_:=Jz (step:=Qft l) (fun k=>(k:Int)) l.length (YX l) (fun i e=>((i:Int),e)) () (fun k hk _=>by
  have hs:YX l k=Zd l[k] (l.take k):=ZL _ _ _ hk;rw [hs];unfold Qft Zd;rw [XL hk,cond_true,Xx hk,QB,Qmd,QB];cases JM l[k]
  ·rfl
  ·simp only [Bool.not_true,cond_false,QB,cond_true];rw [Qcv (by omega),QB,QJw _ _ (by simp;omega),QB,Qsx,Quc,XK k (by omega)];cases Yo (l.take k) l[k]<;>rfl) (fun _=>by
  unfold Qft;rw [XO];rfl)
 rw [key,QB];cases Xz (YX l) l.length<;>rfl
theorem Qpy {α ρ : Type} {step : Int -> Option (Int ⊕ (ρ ⊕ Unit))} (xs : List α) (n : Nat) (hn : n <= xs.length) (p : α -> Bool) (c : ρ)
  (hs:∀ k (hk:k < xs.length),k < n->step (k:Int)=(bif p xs[k] then some (.inr (.inl c)) else some (.inl ((k+1:Nat):Int))))
  (he:step (n:Int)=some (.inr (.inr ()))):loop step 0=some (if (xs.take n).any p=true then .inl c else .inr ()):=by
 have hlen:(xs.take n).length=n:=by simp;omega
 rw [YP (xs.take n) p (fun _ _=>c) (fun k hk=>by
  rw [hlen] at hk;rw [hs k (by omega) hk];simp only [List.getElem_take]) (by rw [hlen];exact he)]
 rcases Zv (p:=p) (res:=fun _ _=>c) (xs.take n) 0 with ⟨k1,k2⟩ | ⟨j,x,k1,k2,k3⟩
 ·rw [k1,k2];rfl
 ·rw [k1,k3];rfl
theorem QLe {p:LockPlant} (h:PlantS p) (k:Nat) (hk:k < p.Switches.length):Qkj p k=some (Zf p k):=by
 have h1:=h.sw;have h2:=h.se;have hs:Zf p k=swE p k p.Switches[k]:=ZL _ _ _ hk;have l0:loop (Qkh p.Switches[k] (k:Int) p) 0=some (if (p.Switches.take k).any (fun o=>decide (o.Name=p.Switches[k].Name))=true then .inl 5 else .inr ()) :=
  Qpy p.Switches k (by omega) _ _ (fun j hj hjk=>by
   unfold Qkh;rw [XL hjk,cond_true,Xx hj,QB,XK j (by omega)]) (by
   unfold Qkh;rw [XO];rfl)
 have l1:loop (Qki p.Switches[k] (k:Int) p) 0=some (if (p.Switches.take k).any (fun o=>decide (o.Section=p.Switches[k].Section))=true then .inl 26 else .inr ()) :=
  Qpy p.Switches k (by omega) _ _ (fun j hj hjk=>by
   unfold Qki;rw [XL hjk,cond_true,Xx hj,QB,XK j (by omega)]) (by
   unfold Qki;rw [XO];rfl)
 rw [hs];unfold Qkj swE swX Zd;rw [Xx hk,QB,Qmd,QB,l0,l1,Qud (fun o:LockSwitch=>o.Name),show Jr p.Switches[k].Section 0 (w64 ((p.Sections.length:Int) - 1))=some (YO p p.Switches[k].Section) by rw [Qem,JQ (by omega)];rfl];cases JM p.Switches[k].Name
 ·rfl
 ·cases Yo ((p.Switches.take k).map (·.Name)) p.Switches[k].Name
  ·cases YO p p.Switches[k].Section
   ·rfl
   ·cases (p.Switches.take k).any (fun o=>decide (o.Section=p.Switches[k].Section))<;>rfl
  ·rfl
theorem Qvk (n:Int):Jr n 0 1=some (Y6 n):=by
 rw [Qem];congr 1;unfold Y6;rw [Bool.eq_iff_iff];simp only [Bool.and_eq_true,Bool.or_eq_true,decide_eq_true_eq];omega
theorem QLb {p:LockPlant} (h:PlantS p) (k:Nat) (hk:k < p.Routes.length):Qkg p k=some (Ze p k):=by
 have h1:=h.ro;have h2:=h.se;have h3:=h.sw;obtain ⟨_,hr,hn⟩:=h.rn _ (List.getElem_mem hk);have hs:Ze p k=rtE p k p.Routes[k]:=ZL _ _ _ hk;have l0:loop (Qkd p.Routes[k] p (k:Int)) 0=some (if (p.Routes.take k).any (fun o=>decide (o.Name=p.Routes[k].Name))=true then .inl 5 else .inr ()) :=
  Qpy p.Routes k (by omega) _ _ (fun j hj hjk=>by
   unfold Qkd;rw [XL hjk,cond_true,Xx hj,QB,XK j (by omega)]) (by
   unfold Qkd;rw [XO];rfl)
 rw [hs];unfold Qkg rtE;rw [Xx hk,QB,Qmd,QB,l0,Qud (fun o:LockRoute=>o.Name)];generalize p.Routes[k]=r at hr hn ⊢;have l1:loop (Qke r p) 0=some (match Xz (Z1 p r) r.Sections.length with | some i=>.inl (Z1 p r i) | none=>.inr ()) :=
  Jz (fun k=>(k:Int)) r.Sections.length (Z1 p r) (fun _ e=>e) () (fun k hk _=>by
   have hs:Z1 p r k=rsE p r k r.Sections[k]:=ZL _ _ _ hk;rw [hs];unfold Qke rsE;rw [XL hk,cond_true,Xx hk,QB,show Jr r.Sections[k] 0 (w64 ((p.Sections.length:Int) - 1))=some (YO p r.Sections[k]) by rw [Qem,JQ (by omega)];rfl,QB,Qcv (by omega),QB,QB,Qne _ _ (by simp;omega),QB,XK k (by omega)];cases YO p r.Sections[k]<;>cases decide (r.Sections[k]∈r.Sections.take k)<;>rfl) (fun _=>by
   unfold Qke;rw [XO];rfl)
 have l2:r.Needs.length=p.Switches.length->loop (Qkf r p) 0=some (XY (JN r) (fun _ _=>(2:Int)) 0 (r.Needs.zip p.Switches)):=fun he =>
  YP (r.Needs.zip p.Switches) _ _ (fun k hk=>by
   rw [Qls he] at hk;unfold Qkf;rw [XL hk,cond_true,Xx (show k < p.Switches.length by omega),QB,Qne _ _ (by omega),QB,Xx hk,XK k (by omega)];simp only [List.getElem_zip,JN,QB,Qvk];cases decide (p.Switches[k].Section∈r.Sections)<;>rfl) (by
   rw [Qls he];unfold Qkf;rw [XO];rfl)
 unfold Zd;cases JM r.Name
 ·rfl
 ·cases Yo ((p.Routes.take k).map (·.Name)) r.Name
  ·simp only [Bool.not_true,cond_false,cond_true,QB,Xm,if_true,Bool.false_eq_true,if_false];unfold rtX;by_cases h4:r.Sections.length < 2
   ·rw [if_pos h4,decide_eq_true (show (r.Sections.length:Int) < 2 by omega)];rfl
   rw [if_neg h4,decide_eq_false (show ¬ (r.Sections.length:Int) < 2 by omega)];by_cases h5:p.Sections.length < r.Sections.length
   ·rw [if_pos h5,decide_eq_true (show (p.Sections.length:Int) < r.Sections.length by omega)];rfl
   rw [if_neg h5,decide_eq_false (show ¬ (p.Sections.length:Int) < r.Sections.length by omega),l1];simp only [cond_false,QB];cases Xz (Z1 p r) r.Sections.length with
   | some i=>rfl
   | none =>
    simp only [Xm];by_cases h6:r.Needs.length=p.Switches.length
    ·rw [if_pos h6,decide_eq_true (show (r.Needs.length:Int)=p.Switches.length by omega),Bool.not_true,cond_false,l2 h6,QB];rcases Zv (p:=JN r) (res:=fun _ _=>(2:Int)) (r.Needs.zip p.Switches) 0 with ⟨k1,k2⟩ | ⟨j,x,k1,k2,k3⟩
     ·rw [k1,k2];rfl
     ·rw [k1,k3];rfl
    ·rw [if_neg h6,decide_eq_false (show ¬ (r.Needs.length:Int)=p.Switches.length by omega)];rfl
  ·rfl
theorem QKx {p:LockPlant} (h:PlantS p):Qjt p=some (ZO p):=by
  have h3:=h.sw;have h4:=h.ro;have l0:loop (Qjr p) 0=some (match Xz (Zf p) p.Switches.length with | some i=>.inl (LockMark.mk 3 i,Zf p i) | none=>.inr ()) :=
    Jz (fun k=>(k:Int)) p.Switches.length (Zf p) (fun i e=>(LockMark.mk 3 i,e)) () (fun k hk _=>by
      unfold Qjr;rw [XL hk,cond_true,QLe h k hk,QB,XK k (by omega)];by_cases h1:Zf p k=0
      · rw [if_pos h1,decide_eq_true h1];rfl
      · rw [if_neg h1,decide_eq_false h1];rfl) (fun _=>by
      unfold Qjr;rw [XO];rfl)
  have l1:loop (Qjs p) 0=some (match Xz (Ze p) p.Routes.length with | some i=>.inl (LockMark.mk 4 i,Ze p i) | none=>.inr ()) :=
    Jz (fun k=>(k:Int)) p.Routes.length (Ze p) (fun i e=>(LockMark.mk 4 i,e)) () (fun k hk _=>by
      unfold Qjs;rw [XL hk,cond_true,QLb h k hk,QB,XK k (by omega)];by_cases h1:Ze p k=0
      · rw [if_pos h1,decide_eq_true h1];rfl
      · rw [if_neg h1,decide_eq_false h1];rfl) (fun _=>by
      unfold Qjs;rw [XO];rfl)
  unfold Qjt ZO;by_cases h1:p.Sections.length=0\/p.Trains.length=0
  · rw [if_pos h1, show (decide ((p.Sections.length : Int) = 0) || decide ((p.Trains.length : Int) = 0)) = true by
      simp only [Bool.or_eq_true,decide_eq_true_eq];omega]
    rfl
  rw [if_neg h1,decide_eq_false (show ¬ (p.Sections.length:Int)=0 by omega),decide_eq_false (show ¬ (p.Trains.length:Int)=0 by omega)];simp only [Bool.or_self,cond_false];by_cases h2:8 < p.Sections.length\/3 < p.Trains.length\/4 < p.Switches.length\/10 < p.Routes.length
  · rw [if_pos h2, show (((decide (8 < (p.Sections.length : Int)) || decide (3 < (p.Trains.length : Int))) || decide (4 < (p.Switches.length : Int))) || decide (10 < (p.Routes.length : Int))) = true by
      simp only [Bool.or_eq_true,decide_eq_true_eq];omega]
    rfl
  rw [if_neg h2, show (((decide (8 < (p.Sections.length : Int)) || decide (3 < (p.Trains.length : Int))) || decide (4 < (p.Switches.length : Int))) || decide (10 < (p.Routes.length : Int))) = false by
      rw [decide_eq_false (by omega),decide_eq_false (by omega),decide_eq_false (by omega),decide_eq_false (by omega)];rfl]
  rw [cond_false,Qvm _ h.se,Qvm _ h.tr,l0,l1];have hz:∀ {f:Nat->Int} {n i:Nat},Xz f n=some i->f i≠0:=fun hf=>(J7 hf).2.1
  cases h3:Xz (YX p.Sections) p.Sections.length with
  | some i=>simp [hz h3]
  | none =>
    simp only [QB,decide_true,Bool.not_true,cond_false];cases h4:Xz (YX p.Trains) p.Trains.length with
    | some i=>simp [hz h4]
    | none =>
      simp only [decide_true,Bool.not_true,cond_false];cases h5:Xz (Zf p) p.Switches.length with
      | some i=>rfl
      | none =>
        simp only [Xm];cases h6:Xz (Ze p) p.Routes.length with
        | some i=>rfl
        | none=>rfl
theorem QLa {p:LockPlant} (h:PlantS p):Qjv p=some (ZO p).2:=by
 unfold Qjv;rw [QKx h];rfl
/-! ### Copies -/
theorem Qhn (l:List Int) (h:l.length < 1000000):Qan l=some l:=by
 unfold Qan;rw [Qcq (by simp;omega)];rfl
theorem Qry (l:List ByteArray) (h:l.length < 1000000):Qeh l=some l:=by
 unfold Qeh;rw [Qcq (by simp;omega)];rfl
theorem Qgn {α:Type} (l:List α) (k:Nat) (hk:k < l.length):l.take k++[l[k]]=l.take (k+1):=by
 have:=Qxj l id k hk;simp
theorem QAh {p:LockPlant} (h:PlantS p):Qfp p=some p:=by
 have h1:=h.se;have h2:=h.tr;have h3:=h.sw;have h4:=h.ro;have hl:=Qjd (step:=Qfo p) (o:=p.Routes) (fun k=>((k:Int),p.Routes.take k)) p.Routes.length (fun k hk=>by
  obtain ⟨_,hr,hn⟩:=h.rn _ (List.getElem_mem hk);unfold Qfo;simp only [XL hk,cond_true,Xx hk,QB];rw [Qhn _ (by omega),QB,Qhn _ (by omega),QB,Qcq (by simp;omega),QB,XK k (by omega),Qgn _ _ hk]) (by
  unfold Qfo;simp only [XO,List.take_length];rfl)
 have hl2:loop (Qfo p) (0,([]:List LockRoute))=some p.Routes:=hl;unfold Qfp;rw [Qry _ (by omega),QB,Qry _ (by omega),QB,Qcq (by simp;omega),QB,QB];simp only [List.nil_append];rw [hl2];rfl
theorem QAi {x:LockState} (h:StateS x):Qju x=some x:=by
 have h1:=h.sw;have h2:=h.tr;have hl:=Qjd (step:=Qfq x) (o:=x.Trains) (fun k=>((k:Int),x.Trains.take k)) x.Trains.length (fun k hk=>by
  unfold Qfq;simp only [XL hk,cond_true,Xx hk,QB];rw [Qhn _ (by have:=h.ch _ (List.getElem_mem hk);omega),QB,Qcq (by simp;omega),QB,XK k (by omega)];show some (Sum.inl (_,x.Trains.take k++[x.Trains[k]]))=_;rw [Qgn _ _ hk]) (by
  unfold Qfq;simp only [XO,List.take_length];rfl)
 have hl2:loop (Qfq x) (0,([]:List LockTrain))=some x.Trains:=hl;unfold Qju;rw [Qhn _ (by omega),QB,QB];simp only;rw [hl2];rfl
/-! ### Equal ones -/
theorem Qsv (a b:List Int) (ha:a.length < 1000000):Qei a b=some (decide (a=b)):=by
 unfold Qei;by_cases hl:a.length=b.length
 ·rw [decide_eq_true (by omega),Bool.not_true,cond_false,YP (a.zip b) (fun x=>!decide (x.1=x.2)) (fun _ _=>false),QB,Qmx a b hl]
  ·intro k hk;rw [Qlr hl] at hk;unfold Qmh;rw [XL hk,cond_true,Xx hk,QB,Xx (show k < b.length by omega),QB,XK k (by omega)];simp only [List.getElem_zip]
  ·rw [Qlr hl];unfold Qmh;rw [XO];rfl
 ·rw [decide_eq_false (by omega)];simp only [Bool.not_false,cond_true];rw [decide_eq_false];intro e;exact hl (by rw [e])
theorem QMs {x:LockState} (h:StateS x) (y:LockState):Qdl x y=some (decide (x=y)):=by
  have h1:=h.sw;have h2:=h.tr;cases x with
  | mk sw tr c =>
  cases y with
  | mk sw2 tr2 c2 =>
  simp only at h1 h2;unfold Qdl;simp only [Qsv sw sw2 (by omega),QB,LockState.mk.injEq];by_cases e1:sw=sw2
  · by_cases e2:c=c2
    · by_cases hl:tr.length=tr2.length
      · rw [decide_eq_true e1,decide_eq_true e2,decide_eq_true (show (tr.length:Int)=tr2.length by omega)];simp only [Bool.not_true,Bool.or_self,cond_false];have key:loop (Qjw ⟨sw,tr,c⟩ ⟨sw2,tr2,c2⟩) 0=_:=YP (tr.zip tr2) (fun x=>!decide (x.1=x.2)) (fun _ _=>false) (fun k hk=>by
          rw [Qlr hl] at hk;unfold Qjw;simp only [XL hk,cond_true,Xx hk,QB,Xx (show k < tr2.length by omega)];rw [Qsv _ _ (by have:(tr[k]).Chain.length < 1000:=h.ch _ (List.getElem_mem hk);omega),QB,XK k (by omega)];simp only [List.getElem_zip];cases h3:tr[k] with
          | mk ch un =>
          cases h4:tr2[k]'(by omega) with
          | mk ch2 un2 =>
          simp only [LockTrain.mk.injEq];by_cases e3:ch=ch2
          · by_cases e4:un=un2
            · simp [e3,e4]
            · simp [e3,e4]
          · simp [e3]) (by
          rw [Qlr hl];unfold Qjw;simp only [XO];rfl)
        rw [key,QB,Qmx tr tr2 hl];simp [e1,e2]
      · rw [decide_eq_false (show ¬ (tr.length:Int)=tr2.length by omega)];have:tr≠tr2:=fun e=>hl (by rw [e])
        simp [this]
    · simp [e2]
  · simp [e1]
/-! ### The Qtc -/
theorem QCz (p:LockPlant):Qdb p=some true/\PlantS p/\(p.Sections.length<=4\/8 < p.Sections.length)\/Qdb p=some false:=by
 unfold Qdb;cases hb:(((((decide (4 < (p.Sections.length:Int))&&decide ((p.Sections.length:Int)<=8))||decide (10 < (p.Sections.length:Int)))||decide (5 < (p.Trains.length:Int)))||decide (6 < (p.Switches.length:Int)))||decide (12 < (p.Routes.length:Int))) with
 | true=>exact .inr rfl
 | false =>
  rw [cond_false];simp only [Bool.or_eq_false_iff,Bool.and_eq_false_iff,decide_eq_false_iff_not] at hb;have h1:p.Sections.length < 1000:=by omega
  have h2:p.Trains.length < 1000:=by omega
  have h3:p.Switches.length < 1000:=by omega
  have h4:p.Routes.length < 1000:=by omega
  have l0:loop (Qid p) 0=some (XY (fun s:ByteArray=>decide (20 < (s.size:Int))) (fun _ _=>false) 0 p.Sections):=YP p.Sections _ _ (fun k hk=>by
   unfold Qid;rw [XL hk,cond_true,Xx hk,QB,XK k (by omega)]) (by unfold Qid;rw [XO];rfl)
  have l1:loop (Qie p) 0=some (XY (fun s:ByteArray=>decide (20 < (s.size:Int))) (fun _ _=>false) 0 p.Trains):=YP p.Trains _ _ (fun k hk=>by
   unfold Qie;rw [XL hk,cond_true,Xx hk,QB,XK k (by omega)]) (by unfold Qie;rw [XO];rfl)
  have l2:loop (Qif p) 0=some (XY (fun s:LockSwitch=>decide (20 < (s.Name.size:Int))) (fun _ _=>false) 0 p.Switches):=YP p.Switches _ _ (fun k hk=>by
   unfold Qif;rw [XL hk,cond_true,Xx hk,QB,XK k (by omega)]) (by unfold Qif;rw [XO];rfl)
  have l3:loop (Qig p) 0=some (XY (fun r:LockRoute=>decide (20 < (r.Name.size:Int))||(decide (10 < (r.Sections.length:Int))||decide (6 < (r.Needs.length:Int)))) (fun _ _=>false) 0 p.Routes):=YP p.Routes _ _ (fun k hk=>by
   unfold Qig;simp only [XL hk,cond_true,Xx hk,QB,XK k (show k < 4611686018427387904 by omega)];cases decide (20 < (p.Routes[k].Name.size:Int))<;>cases decide (10 < (p.Routes[k].Sections.length:Int))<;>cases decide (6 < (p.Routes[k].Needs.length:Int))<;>rfl) (by unfold Qig;rw [XO];rfl)
  rw [l0,l1,l2,l3];simp only [QB];rcases Zv (p:=fun s:ByteArray=>decide (20 < (s.size:Int))) (res:=fun _ _=>false) p.Sections 0 with ⟨k1,k2⟩ | ⟨j,x,k1,k2,k3⟩
  ·rw [k1];rcases Zv (p:=fun s:ByteArray=>decide (20 < (s.size:Int))) (res:=fun _ _=>false) p.Trains 0 with ⟨m1,m2⟩ | ⟨j,x,m1,m2,m3⟩
   ·rw [m1];rcases Zv (p:=fun s:LockSwitch=>decide (20 < (s.Name.size:Int))) (res:=fun _ _=>false) p.Switches 0 with ⟨n1,n2⟩ | ⟨j,x,n1,n2,n3⟩
    ·rw [n1];rcases Zv (p:=fun r:LockRoute=>decide (20 < (r.Name.size:Int))||(decide (10 < (r.Sections.length:Int))||decide (6 < (r.Needs.length:Int)))) (res:=fun _ _=>false) p.Routes 0 with ⟨o1,o2⟩ | ⟨j,x,o1,o2,o3⟩
     ·rw [o1];rw [List.any_eq_false] at k2 m2 n2 o2;refine .inl ⟨rfl,⟨h1,h2,h3,h4,fun s hs=>?_,fun s hs=>?_,fun s hs=>?_,fun r hr=>?_⟩,by omega⟩
      ·have:=k2 s hs;simp at this;omega
      ·have:=m2 s hs;simp at this;omega
      ·have:=n2 s hs;simp at this;omega
      ·have:=o2 r hr;simp at this;omega
     ·rw [o1];exact .inr rfl
    ·rw [n1];exact .inr rfl
   ·rw [m1];exact .inr rfl
  ·rw [k1];exact .inr rfl
theorem QDa (x:LockState):Qdc x=some true/\StateS x\/Qdc x=some false:=by
 unfold Qdc;cases hb:(decide (6 < (x.Switches.length:Int))||decide (5 < (x.Trains.length:Int))) with
 | true=>exact .inr rfl
 | false =>
  rw [cond_false];simp only [Bool.or_eq_false_iff,decide_eq_false_iff_not] at hb;have l0:loop (Qih x) 0=some (XY (fun t:LockTrain=>decide (10 < (t.Chain.length:Int))) (fun _ _=>false) 0 x.Trains):=YP x.Trains _ _ (fun k hk=>by
   unfold Qih;rw [XL hk,cond_true,Xx hk,QB,XK k (by omega)]) (by unfold Qih;rw [XO];rfl)
  rw [l0,QB];rcases Zv (p:=fun t:LockTrain=>decide (10 < (t.Chain.length:Int))) (res:=fun _ _=>false) x.Trains 0 with ⟨k1,k2⟩ | ⟨j,y,k1,k2,k3⟩
  ·rw [k1];rw [List.any_eq_false] at k2;refine .inl ⟨rfl,by omega,by omega,fun t ht=>?_⟩;have:=k2 t ht;simp at this;omega
  ·rw [k1];exact .inr rfl
end Go.Gw

end
section
set_option maxRecDepth 4096
namespace Go.Gw
open Go
attribute [local irreducible] loop
theorem QLc {p:LockPlant} (h:PlantS p) (n:Int):Qjx p n=some (bif YO p n then 0 else 6):=by
 have:=h.se;unfold Qjx;rw [Qem,JQ (by omega),QB];show (bif !(YO p n) then _ else _)=_;cases YO p n<;>rfl
/-! ### Which section leads to which -/
theorem Qsh {α:Type} (g:α->Bool):∀ (l:List α) (k:Nat) (b:Bool),JK (fun (_:Nat) (a:Bool) (x:α)=>a&&!(g x)) k b l=(b&&!(l.any g))
 | [],k,b=>by simp [JK]
 | x::l,k,b=>by
  unfold JK;rw [Qsh g l];simp only [List.any_cons];cases b<;>cases g x<;>simp
theorem QKz {p:LockPlant} {x:LockState} {r:LockRoute} {a b:Int} (h1:r.Needs.length=p.Switches.length) (h2:x.Switches.length=p.Switches.length) (h3:p.Switches.length < 1000):loop (Qfs r p x b a) (true,0)=some (Zu p x.Switches r [a,b]):=by
 have hlen:(p.Switches.zip (r.Needs.zip x.Switches)).length=p.Switches.length:=by simp [h1,h2]
 have:=(Qty (step:=Qfs r p x b a) (p.Switches.zip (r.Needs.zip x.Switches)) (fun _ (c:Bool) q=>c&&!(Qew [a,b] q)) (fun c k=>(c,(k:Int))) (fun c=>c) (fun _ _=>True) true trivial (fun k hk c _=>by
  rw [hlen] at hk;refine ⟨?_,trivial⟩;unfold Qfs;simp only [XL hk,cond_true,Xx hk,QB,XK k (show k < 4611686018427387904 by omega),Xx (show k < r.Needs.length by omega),Xx (show k < x.Switches.length by omega),List.getElem_zip,Qew];generalize hs:p.Switches[k].Section=s;by_cases ha:s=a
  ·subst ha;cases c
   ·simp
   ·by_cases hn:x.Switches[k]=r.Needs[k]
    ·simp [hn]
    ·simp [hn,Ne.symm hn]
  ·by_cases hb:s=b
   ·subst hb;cases c
    ·simp [ha,hs]
    ·by_cases hn:x.Switches[k]=r.Needs[k]
     ·simp [hn,ha,hs]
     ·simp [hn,Ne.symm hn,ha,hs]
   ·cases c<;>simp [ha,hb,hs]) (fun c _=>by
  rw [hlen];unfold Qfs;simp only [XO];rfl)).1
 rw [Qsh,Bool.true_and] at this;exact this
theorem QKy {p:LockPlant} (hp:PlantOk p) {x:LockState} (h2:x.Switches.length=p.Switches.length) (a b:Int):Qkb p x a b=some (Qbu p x.Switches a b):=by
 have hw4:=hp.w4;have hr10:=hp.r10;have hs8:=hp.s8;unfold Qkb Qbu;have inner:∀ r∈p.Routes,loop (Qka r p x b a) 0=some (if (ZF r a b&&Zu p x.Switches r [a,b])=true then .inl (.inr (.inl true)) else .inr ()):=fun r hr=>by
  have hr2:=hp.r2 r hr;have hr8:=hp.r8 r hr;have hlen:(r.Sections.zip (r.Sections.drop 1)).length=r.Sections.length - 1:=by simp
  rw [YP (r.Sections.zip (r.Sections.drop 1)) (fun q=>(decide (q.1=a)&&decide (q.2=b))&&Zu p x.Switches r [a,b]) (fun _ _=>Sum.inr (.inl true)) (fun k hk=>by
   rw [hlen] at hk;unfold Qka;rw [XK k (by omega),XL (show k+1 < r.Sections.length by omega),cond_true,Xx (show k < r.Sections.length by omega),QB,Xx (show k+1 < r.Sections.length by omega),QKz (hp.rn r hr) h2 (by omega)];simp only [List.getElem_zip,List.getElem_drop,QB];have e:r.Sections[1+k]'(by omega)=r.Sections[k+1]'(by omega) := by congr 1;omega
   rw [e];generalize Zu p x.Switches r [a,b]=lb;by_cases h3:r.Sections[k]=a
   ·by_cases h4:r.Sections[k+1]=b
    ·cases lb<;>simp [h3,h4]
    ·cases lb<;>simp [h3,h4]
   ·cases lb<;>simp [h3]) (by
   rw [hlen];unfold Qka;rw [XK _ (by omega),show r.Sections.length - 1+1=r.Sections.length by omega,XO];rfl)]
  have ea:(r.Sections.zip (r.Sections.drop 1)).any (fun q=>(decide (q.1=a)&&decide (q.2=b))&&Zu p x.Switches r [a,b])=(ZF r a b&&Zu p x.Switches r [a,b]):=by
   unfold ZF;cases Zu p x.Switches r [a,b]<;>simp
  rcases Zv (p:=fun q:Int×Int=>(decide (q.1=a)&&decide (q.2=b))&&Zu p x.Switches r [a,b]) (res:=fun _ _=>(Sum.inr (.inl true):Int⊕(Bool⊕Unit))) (r.Sections.zip (r.Sections.drop 1)) 0 with ⟨k1,k2⟩ | ⟨j,y,k1,k2,k3⟩
  ·rw [k1,<-ea,k2];rfl
  ·rw [k1,<-ea,k3];rfl
 rw [YP p.Routes (fun r=>ZF r a b&&Zu p x.Switches r [a,b]) (fun _ _=>true),QB]
 ·rcases Zv (p:=fun r=>ZF r a b&&Zu p x.Switches r [a,b]) (res:=fun _ _=>true) p.Routes 0 with ⟨k1,k2⟩ | ⟨j,y,k1,k2,k3⟩
  ·rw [k1,k2];rfl
  ·rw [k1,k3];rfl
 ·intro k hk;unfold Qph;rw [XL hk,cond_true,Xx hk,QB,inner _ (List.getElem_mem hk),XK k (by omega)];cases (ZF p.Routes[k] a b&&Zu p x.Switches p.Routes[k] [a,b])<;>rfl
 ·unfold Qph;rw [XO];rfl
/-! ### Which states are right -/
theorem QGu {x:LockState} {n:Nat} {s:Int}:decide (s∈(x.Trains.take n).flatMap (·.Chain))=(x.Trains.take n).any fun o=>decide (s∈o.Chain):=by
 rw [Bool.eq_iff_iff,decide_eq_true_eq,List.any_eq_true,List.mem_flatMap];simp only [decide_eq_true_eq]
theorem Qvl {p : LockPlant} (hS : PlantS p) (hp : PlantOk p) {x : LockState} (h : StateS x) (h2 : x.Switches.length = p.Switches.length) (n : Nat) (hn : n < x.Trains.length) (hf : ((x.Trains.take n).flatMap (·.Chain)).length <= 1000 * n) :
    loop (Qfr x.Trains[n] p x) ((x.Trains.take n).flatMap (·.Chain),0)=some (match Xz (Jf p x n x.Trains[n]) x.Trains[n].Chain.length with | some k=>.inl (.inr (.inl (Jf p x n x.Trains[n] k))) | none=>.inr ((x.Trains.take (n+1)).flatMap (·.Chain))):=by
  have hc:=h.ch _ (List.getElem_mem hn);have hl:=h.tr;have e1:(x.Trains.take (n+1)).flatMap (·.Chain)=(x.Trains.take n).flatMap (·.Chain)++x.Trains[n].Chain:=by
    rw [<-Qgn _ _ hn,List.flatMap_append];simp
  rw [e1];generalize hF:(x.Trains.take n).flatMap (·.Chain)=F at hf ⊢;have hm:∀ s,decide (s∈F)=(x.Trains.take n).any fun o=>decide (s∈o.Chain):=fun s=>by rw [<-hF];exact QGu
  have:=Jz (step:=Qfr x.Trains[n] p x) (fun k=>(F++x.Trains[n].Chain.take k,(k:Int))) x.Trains[n].Chain.length (Jf p x n x.Trains[n]) (fun _ e=>(.inr (.inl e):((List Int)×Int)⊕(Int⊕Unit))) (F++x.Trains[n].Chain) (fun k hk _=>by
    have hs:Jf p x n x.Trains[n] k=chE p x n x.Trains[n] k x.Trains[n].Chain[k]:=ZL _ _ _ hk;rw [hs];unfold Qfr chE;simp only [XL hk,cond_true,Xx hk,QB,QLc hS];rw [Qne _ _ (by simp;omega),QB,Qcq (by simp;omega),QB,XK k (by omega),List.append_assoc,Qgn _ _ hk,
      show decide (x.Trains[n].Chain[k]∈F++x.Trains[n].Chain.take k)=(decide (x.Trains[n].Chain[k]∈x.Trains[n].Chain.take k)||(x.Trains.take n).any fun o=>decide (x.Trains[n].Chain[k]∈o.Chain)) by
        rw [<-hm,Bool.eq_iff_iff];simp [or_comm]]
    cases YO p x.Trains[n].Chain[k]
    · rfl
    cases (decide (x.Trains[n].Chain[k]∈x.Trains[n].Chain.take k)||(x.Trains.take n).any fun o=>decide (x.Trains[n].Chain[k]∈o.Chain))
    · simp only [cond_true,decide_true,Bool.not_true,cond_false];by_cases hk0:k=0
      · subst hk0;rfl
      · rw [decide_eq_true (show (0:Int) < (k:Int) by omega),show w64 ((k:Int) - 1)=((k - 1:Nat):Int) by rw [JQ (by omega)];omega];simp only [cond_true,Xx (show k - 1 < x.Trains[n].Chain.length by omega),QB,QKy hp h2,if_neg hk0,List.getElem?_eq_getElem (show k - 1 < x.Trains[n].Chain.length by omega),Option.getD_some];cases Qbu p x.Switches x.Trains[n].Chain[k - 1] x.Trains[n].Chain[k]<;>rfl
    · rfl) (fun _=>by
    unfold Qfr;simp only [XO,List.take_length];rfl)
  simp only [List.take_zero,List.append_nil,Int.natCast_zero] at this;exact this
theorem QLd {p:LockPlant} (hS:PlantS p) (hp:PlantOk p) {x:LockState} (h:StateS x):Qjz p x=some (Qkv p x):=by
  have h1:=h.sw;have h2:=h.tr;have hw4:=hp.w4;have ht3:=hp.t3;unfold Qjz Qkv;by_cases hl:x.Switches.length=p.Switches.length/\x.Trains.length=p.Trains.length
  · rw [if_pos hl,decide_eq_true (show (x.Switches.length:Int)=p.Switches.length by omega),decide_eq_true (show (x.Trains.length:Int)=p.Trains.length by omega)];simp only [Bool.not_true,Bool.or_self,cond_false];rw [YP x.Switches (fun n=>!(Y6 n)) (fun _ _=>2) (fun k hk=>by
      unfold Qpf;rw [XL hk,cond_true,Xx hk,QB,Qvk,QB,XK k (by omega)]) (by
      unfold Qpf;rw [XO];rfl),QB]
    have ea:x.Switches.any (fun n=>!(Y6 n))=!(x.Switches.all Y6):=by
      rw [List.all_eq_not_any_not,Bool.not_not]
    rcases Zv (p:=fun n=>!(Y6 n)) (res:=fun _ _=>(2:Int)) x.Switches 0 with ⟨k1,k2⟩ | ⟨j,y,k1,k2,k3⟩
    · rw [k1];rw [ea,Bool.not_eq_false'] at k2;rw [k2,Bool.true_and];simp only [Xm];rw [show Qpg x.Counter=some (Qbq x.Counter) from rfl,QB];cases Qbq x.Counter
      · rfl
      · simp only [Bool.not_true,cond_false,cond_true];have:=Jz (step:=Qjy p x) (fun n=>((x.Trains.take n).flatMap (·.Chain),(n:Int))) x.Trains.length (JB p x) (fun _ e=>e) () (fun n hn _=>by
          have hs:JB p x n=tsE p x n x.Trains[n]:=ZL _ _ _ hn;have hf:∀ m,m<=x.Trains.length->((x.Trains.take m).flatMap (·.Chain)).length<=1000 * m:=fun m=>by
            induction m with
            | zero=>intro _;simp
            | succ m ih =>
              intro hm;rw [<-Qgn _ _ (show m < x.Trains.length by omega),List.flatMap_append,List.length_append];have:=ih (by omega);have:=h.ch _ (List.getElem_mem (show m < x.Trains.length by omega));rw [show ([x.Trains[m]]:List LockTrain).flatMap (·.Chain)=x.Trains[m].Chain by simp];omega
          have hc:=h.ch _ (List.getElem_mem hn);rw [hs];unfold Qjy tsE;simp only [XL hn,cond_true,Xx hn,QB,Qem];have eu:(((decide ((x.Trains[n].Chain.length:Int)=0))&&(!decide (x.Trains[n].Under=0)))||((decide (0 < (x.Trains[n].Chain.length:Int)))&&(!(decide (1<=x.Trains[n].Under)&&decide (x.Trains[n].Under<=(x.Trains[n].Chain.length:Int))))))=!(Qbb x.Trains[n]):=by
            unfold Qbb;by_cases h0:x.Trains[n].Chain.length=0
            · rw [if_pos h0,decide_eq_true (show (x.Trains[n].Chain.length:Int)=0 by omega),decide_eq_false (show ¬ (0:Int) < x.Trains[n].Chain.length by omega)];simp
            · rw [if_neg h0,decide_eq_false (show ¬ (x.Trains[n].Chain.length:Int)=0 by omega),decide_eq_true (show (0:Int) < x.Trains[n].Chain.length by omega)];simp
          by_cases h0:x.Trains[n].Chain.length=0
          · have g1:decide ((x.Trains[n].Chain.length:Int)=0)=true:=decide_eq_true (by omega);have g2:decide ((0:Int) < x.Trains[n].Chain.length)=false:=decide_eq_false (by omega);rw [g1,g2] at eu ⊢;simp only [Bool.and_false,cond_false,QB,Bool.false_and,Bool.or_false] at eu ⊢;rw [eu];cases Qbb x.Trains[n]
            · rfl
            · simp only [Bool.not_true,cond_false,cond_true];rw [Qvl hS hp h hl.1 n hn (hf n (by omega)),QB];cases hfe:Xz (Jf p x n x.Trains[n]) x.Trains[n].Chain.length with
              | some k=>rw [if_neg (J7 hfe).2.1];rfl
              | none=>rw [if_pos rfl];simp only [Xm];rw [XK n (by omega)]
          · have g1:decide ((x.Trains[n].Chain.length:Int)=0)=false:=decide_eq_false (by omega);have g2:decide ((0:Int) < x.Trains[n].Chain.length)=true:=decide_eq_true (by omega);rw [g1,g2] at eu ⊢;simp only [Bool.false_and,Bool.not_false,Bool.and_true,cond_true,QB] at eu ⊢;rw [eu];cases Qbb x.Trains[n]
            · rfl
            · simp only [Bool.not_true,cond_false,cond_true];rw [Qvl hS hp h hl.1 n hn (hf n (by omega)),QB];cases hfe:Xz (Jf p x n x.Trains[n]) x.Trains[n].Chain.length with
              | some k=>rw [if_neg (J7 hfe).2.1];rfl
              | none=>rw [if_pos rfl];simp only [Xm];rw [XK n (by omega)]) (fun _=>by
          unfold Qjy;simp only [XO];rfl)
        simp only [List.take_zero,List.flatMap_nil,Int.natCast_zero] at this;rw [this,QB];cases Xz (JB p x) x.Trains.length<;>rfl
    · rw [k1];rw [ea,Bool.not_eq_true'] at k3;rw [k3];rfl
  · rw [if_neg hl, show (!decide ((x.Switches.length : Int) = p.Switches.length) || !decide ((x.Trains.length : Int) = p.Trains.length)) = true by
      simp only [Bool.or_eq_true,Bool.not_eq_true',decide_eq_false_iff_not];omega]
    rfl
end Go.Gw

end
section
set_option maxRecDepth 4096
namespace Go.Gw
open Go
attribute [local irreducible] loop
theorem QKw {p:LockPlant} (h:PlantS p):Qjq p=some (Qcu p):=by
 have h1:=h.sw;have h2:=h.tr;unfold Qjq;rw [Qjf _ _ (by omega),QB,Qjf _ _ (by omega),QB];rfl
/-! ### All events -/
/-! ### What lies in a list and meets a test -/
end Go.Gw

end
section
set_option maxRecDepth 4096
namespace Go.Gw
open Go
attribute [local irreducible] loop
theorem Qxa {α:Type} {p:α->Bool}:∀ (l:List α) (m:Nat),(XY p (fun k _=>(k:Int)) m l=.inr ()/\l.any p=false)\/∃ j,∃ h:j < l.length,XY p (fun k _=>(k:Int)) m l=.inl ((m+j:Nat):Int)/\p l[j]=true
 | [],m=>.inl ⟨rfl,rfl⟩
 | x::l,m=>by
  by_cases hp:p x=true
  ·exact .inr ⟨0,by simp,by simp [XY,hp],by simpa using hp⟩
  ·rcases Qxa (p:=p) l (m+1) with ⟨h1,h2⟩ | ⟨j,hj,h1,h2⟩
   ·exact .inl ⟨by simp [XY,hp,h1],by simp [hp,h2]⟩
   ·exact .inr ⟨j+1,by simpa using hj,by simp only [XY,hp];rw [h1];simp;omega,by simpa using h2⟩
theorem QDu {α:Type} (p:α->Bool) (l:List α):(J9 p l=-1/\l.any p=false)\/∃ j,∃ h:j < l.length,J9 p l=(j:Int)/\p l[j]=true:=by
 unfold J9;rcases Qxa (p:=p) l 0 with ⟨h1,h2⟩ | ⟨j,hj,h1,h2⟩
 ·exact .inl ⟨by rw [h1],h2⟩
 ·exact .inr ⟨j,hj,by rw [h1];simp,h2⟩
theorem Quv {α:Type} {l:List α} (h:l.Nodup) {i j:Nat} (hi:i < l.length) (hj:j < l.length) (e:l[i]=l[j]):i=j:=by
 unfold List.Nodup at h;rw [List.pairwise_iff_getElem] at h;rcases Nat.lt_trichotomy i j with h1 | h1 | h1
 ·exact absurd e (h i j hi hj h1)
 ·exact h1
 ·exact absurd e.symm (h j i hj hi h1)
theorem QDz {p:LockPlant} (hp:PlantOk p) {x:LockState} (h2:x.Switches.length=p.Switches.length) (a b:Int):Qir (some ⟨p,x⟩) a b=some (Qbu p x.Switches a b):=by
  have hw4:=hp.w4;have hr10:=hp.r10;have hs8:=hp.s8;unfold Qir Qbu;rw [QB,YP p.Routes (fun r=>ZF r a b&&Zu p x.Switches r [a,b]) (fun _ _=>true),QB]
  · rcases Zv (p:=fun r=>ZF r a b&&Zu p x.Switches r [a,b]) (res:=fun _ _=>true) p.Routes 0 with ⟨k1,k2⟩ | ⟨j,y,k1,k2,k3⟩
    · rw [k1,k2];rfl
    · rw [k1,k3];rfl
  · intro k hk;have hr:=List.getElem_mem hk;unfold Qod;simp only [XL hk,cond_true,Xx hk,QB];generalize p.Routes[k]=r at hr ⊢;have hr2:=hp.r2 r hr;have hr8:=hp.r8 r hr;have hrd:=hp.rd r hr;rw [Qsw _ _ (by omega),QB,QEk (hp.rn r hr) h2 (by omega) (by simp),XK k (by omega)];rcases QDu (fun x=>decide (a=x)) r.Sections with ⟨h3,h4⟩ | ⟨j,hj,h3,h4⟩
    · rw [h3];have h5:ZF r a b=false:=by
        cases hb:ZF r a b with
        | false=>rfl
        | true =>
          obtain ⟨j,hj,h6,_⟩:=pairB_iff.1 hb;rw [Qre,decide_eq_false_iff_not] at h4;exact absurd (h6▸List.getElem_mem _) h4
      rw [h5];rfl
    · rw [h3];have h4:a=r.Sections[j]:=by simpa using h4
      rw [decide_eq_true (show (0:Int)<=(j:Int) by omega),XK j (by omega)];by_cases h5:j+1 < r.Sections.length
      · rw [XL h5];simp only [Bool.and_self,cond_true];rw [Xx h5,QB];have h6:ZF r a b=decide (r.Sections[j+1]=b):=by
          rw [Bool.eq_iff_iff,pairB_iff,decide_eq_true_eq];constructor
          · rintro ⟨i,hi,h7,h8⟩;have:i=j:=Quv hrd (by omega) hj (h7.trans h4);subst this;exact h8
          · intro h7;exact ⟨j,h5,h4.symm,h7⟩
        rw [h6];cases decide (r.Sections[j+1]=b)<;>rfl
      · rw [decide_eq_false (show ¬ ((j+1:Nat):Int) < r.Sections.length by omega)];have h6:ZF r a b=false:=by
          cases hb:ZF r a b with
          | false=>rfl
          | true =>
            obtain ⟨i,hi,h7,_⟩:=pairB_iff.1 hb;have:i=j:=Quv hrd (by omega) hj (h7.trans h4);omega
        rw [h6];rfl
  · unfold Qod;simp only [XO];rfl
theorem Qsi {α:Type} (g:α->Bool):∀ (l:List α) (k:Nat) (b:Bool),JK (fun (_:Nat) (a:Bool) (x:α)=>a||g x) k b l=(b||l.any g)
 | [],k,b=>by simp [JK]
 | x::l,k,b=>by
  unfold JK;rw [Qsi g l];simp [Bool.or_assoc]
theorem Qzw (l:List LockTrain) (h:∀ t∈l,t.Chain.length < 1000) (hl:l.length < 1000) (s:Int) (b:Bool):loop (Qey s l) (b,0)=some (b||l.any fun o=>decide (s∈o.Chain)):=by
 have:=(Qty (step:=Qey s l) l (fun _ (c:Bool) o=>c||decide (s∈o.Chain)) (fun c k=>(c,(k:Int))) (fun c=>c) (fun _ _=>True) b trivial (fun k hk c _=>by
  refine ⟨?_,trivial⟩;unfold Qey;simp only [XL hk,cond_true,Xx hk,QB,XK k (show k < 4611686018427387904 by omega),Qep _ _ (show l[k].Chain.length < 1000000 by have:=h _ (List.getElem_mem hk);omega)];cases c<;>rfl) (fun c _=>by
  unfold Qey;simp only [XO];rfl)).1
 rw [Qsi] at this;exact this
theorem QPv (t:LockTrain):ZX t.Under (if (t.Chain.length:Int) < 1 then (t.Chain.length:Int) else 1) (t.Chain.length:Int)=some (Qbb t):=by
 rw [Qqm];congr 1;unfold Qbb;by_cases h0:t.Chain.length=0
 ·rw [if_pos h0,if_pos (show (t.Chain.length:Int) < 1 by omega),Bool.eq_iff_iff];simp only [Bool.and_eq_true,decide_eq_true_eq];omega
 ·rw [if_neg h0,if_neg (show ¬ (t.Chain.length:Int) < 1 by omega)]
theorem QDx {p:LockPlant} (hS:PlantS p) (hp:PlantOk p) {x:LockState} (h:StateS x) (h2:x.Switches.length=p.Switches.length) (n:Nat) (hn:n < x.Trains.length):Qiq (some ⟨p,x⟩) (n:Int)=some (JB p x n):=by
  have hs:JB p x n=tsE p x n x.Trains[n]:=ZL _ _ _ hn;have hc:=h.ch _ (List.getElem_mem hn);have hl:=h.tr;rw [hs];unfold Qiq tsE;simp only [QB,Xx hn];rw [QPv,QB];cases Qbb x.Trains[n]
  · rfl
  simp only [Bool.not_true,cond_false,cond_true];have key:loop (Qip x.Trains[n] (some ⟨p,x⟩) (n:Int)) 0=some (match Xz (Jf p x n x.Trains[n]) x.Trains[n].Chain.length with | some i=>.inl (Jf p x n x.Trains[n] i) | none=>.inr ()) :=
    Jz (fun k=>(k:Int)) x.Trains[n].Chain.length (Jf p x n x.Trains[n]) (fun _ e=>e) () (fun k hk _=>by
      have hs:Jf p x n x.Trains[n] k=chE p x n x.Trains[n] k x.Trains[n].Chain[k]:=ZL _ _ _ hk;rw [hs];unfold Qip chE;simp only [XL hk,cond_true,Xx hk,QB];rw [Qcv (by omega),QB,Qep _ _ (by simp;omega),QB,Qcv (by omega),QB,
        Qzw _ (fun t ht=>h.ch t (List.mem_of_mem_take ht)) (by simp;omega),QB,QMw hS,QB,Zg,QB,XK k (by omega)]
      generalize (decide (x.Trains[n].Chain[k]∈x.Trains[n].Chain.take k)||(x.Trains.take n).any fun o=>decide (x.Trains[n].Chain[k]∈o.Chain))=bb;by_cases hk0:k=0
      · subst hk0;simp only [Int.natCast_zero,decide_true,Bool.not_true,cond_false,QB,Bool.true_or,if_true,Zg,cond_true];rw [Jx _ (by simp),QB,Qeu];cases YO p x.Trains[n].Chain[0]<;>cases bb<;>rfl
      · rw [decide_eq_false (show ¬ (k : Int) = 0 by omega), show w64 ((k : Int) - 1) = ((k - 1 : Nat) : Int) by rw [JQ (by omega)]; omega,
          show (if (0:Int) < ((k - 1:Nat):Int) then ((k - 1:Nat):Int) else 0)=((k - 1:Nat):Int) by split<;>omega]
        simp only [Bool.not_false,cond_true,Xx (show k - 1 < x.Trains[n].Chain.length by omega),QB,QDz hp h2,if_neg hk0,List.getElem?_eq_getElem (show k - 1 < x.Trains[n].Chain.length by omega),Option.getD_some,Bool.false_or,Zg];rw [Jx _ (by simp),QB,Qeu];cases YO p x.Trains[n].Chain[k]<;>cases bb<;>cases Qbu p x.Switches x.Trains[n].Chain[k - 1] x.Trains[n].Chain[k]<;>rfl) (fun _=>by
      unfold Qip;simp only [XO];rfl)
  rw [key,QB];cases Xz (Jf p x n x.Trains[n]) x.Trains[n].Chain.length<;>rfl
theorem QKq (l:List Int) (hl:l.length < 1000):Qks l=some (!(l.all Y6)):=by
 unfold Qks Qpv;rw [YP l (fun n=>!(Y6 n)) (fun k _=>(k:Int)),QB,Qku,QB,Qkt]
 ·rw [List.all_eq_not_any_not,Bool.not_not]
 ·intro k hk;unfold Qpu;rw [XL hk,Xx hk,XK k (by omega)];rfl
 ·unfold Qpu;rw [XO];rfl
def Qca (p:LockPlant) (x:LockState):Int:=if (ZO p).2=0 then Qkv p x else (ZO p).2
theorem QKg {p:LockPlant} (hS:PlantS p) {x:LockState} (h:StateS x):Qiy p x=some (if Qca p x=0 then (some ⟨p,x⟩,0) else (none,Qca p x)):=by
  have h1:=h.sw;have h2:=h.tr;have h3:=hS.sw;have h4:=hS.tr;unfold Qiy Qca;rw [QKq _ (by omega),QB,Qvi hS,QB,Zg,QB,Bool.not_not];by_cases hp0:(ZO p).2=0
  · have hp:=Qvj hp0;simp only [if_pos hp0,hp0];unfold Qkv;by_cases hl:x.Switches.length=p.Switches.length/\x.Trains.length=p.Trains.length
    · rw [if_pos hl,decide_eq_true (show (x.Switches.length:Int)=p.Switches.length by omega),decide_eq_true (show (x.Trains.length:Int)=p.Trains.length by omega)];have e1:∀ (f:Bool->Option (Option lock_line×Int)),(Option.bind (bif x.Switches.all Y6 then Qau x.Counter else some default) f)=f (bif x.Switches.all Y6 then Qbq x.Counter else default):=fun f=>by
        cases x.Switches.all Y6<;>rfl
      rw [e1,Zg,QB,Jx _ (by simp),QB,Qeu];cases ha:x.Switches.all Y6
      · rfl
      · cases hb:Qbq x.Counter
        · rfl
        · simp only [Bool.and_self,cond_true,ne_eq,not_true_eq_false,if_false,decide_true,Bool.not_true,cond_false];have key:loop (Qix p x) 0=some (match Xz (JB p x) x.Trains.length with | some i=>.inl (none,JB p x i) | none=>.inr ()) :=
            Jz (fun k=>(k:Int)) x.Trains.length (JB p x) (fun _ e=>(none,e)) () (fun k hk _=>by
              unfold Qix;rw [XL hk,cond_true,QDx hS hp h hl.1 k hk,QB,XK k (by omega)];by_cases h5:JB p x k=0
              · rw [if_pos h5,decide_eq_true h5];rfl
              · rw [if_neg h5,decide_eq_false h5];rfl) (fun _=>by
              unfold Qix;rw [XO];rfl)
          rw [key,QB];cases hf:Xz (JB p x) x.Trains.length with
          | some i =>
            have h5:=(J7 hf).2.1;simp [Xm,h5]
          | none=>rfl
    · rw [if_neg hl, show (decide ((x.Switches.length : Int) = p.Switches.length) && decide ((x.Trains.length : Int) = p.Trains.length)) = false by
        rw [Bool.and_eq_false_iff,decide_eq_false_iff_not,decide_eq_false_iff_not];omega]
      have e1:∀ (f:Bool->Option (Option lock_line×Int)),(Option.bind (bif x.Switches.all Y6 then Qau x.Counter else some default) f)=f (bif x.Switches.all Y6 then Qbq x.Counter else default):=fun f=>by
        cases x.Switches.all Y6<;>rfl
      rw [e1,Zg,QB,Jx _ (by simp),QB,Qeu];rfl
  · simp only [if_neg hp0];have e1:∀ (f:Bool->Option (Option lock_line×Int)),(Option.bind (bif x.Switches.all Y6 then Qau x.Counter else some default) f)=f (bif x.Switches.all Y6 then Qbq x.Counter else default):=fun f=>by
      cases x.Switches.all Y6<;>rfl
    rw [e1,Zg,QB,Jx _ (by simp),QB,Qeu,if_pos hp0,decide_eq_false hp0];rfl
theorem QDy {p:LockPlant} (hS:PlantS p) {x:LockState} (h:StateS x):Qim p x=some (Qca p x):=by
 unfold Qim;rw [QKg hS h,QB];by_cases h0:Qca p x=0
 ·rw [if_pos h0,h0]
 ·rw [if_neg h0]
theorem QDw {p:LockPlant} (hS:PlantS p):Qii p=some (if (ZO p).2=0 then (Qcu p,0) else (Qdx,(ZO p).2)):=by
 unfold Qii;rw [Qvi hS,QB];by_cases h0:(ZO p).2=0
 ·rw [if_pos h0,decide_eq_true h0,Bool.not_true,cond_false,Qzp hS];rfl
 ·rw [if_neg h0,decide_eq_false h0];rfl
/-! ### Telegrams -/
end Go.Gw

end
section
set_option maxRecDepth 4096
namespace Go.Gw
open Go
attribute [local irreducible] loop
theorem Qxb (x:LockState):LockState.mk x.Switches x.Trains x.Counter=x:=rfl
theorem QRx:StateS Qdx:=⟨by simp [Qdx],by simp [Qdx],fun t ht=>by simp [Qdx] at ht⟩
theorem Qzo {p:LockPlant} (h:PlantS p):StateS (Qcu p):=by
 have h1:=h.sw;have h2:=h.tr;refine ⟨by simp [Qcu];omega,by simp [Qcu];omega,fun t ht=>?_⟩;rw [(List.mem_replicate.1 ht).2];simp
theorem QRy:(LockState.mk ([]:List Int) ([]:List LockTrain) 0)=Qdx:=rfl
theorem Qwh {x:LockState} (h:StateS x):Qdl x x=some true:=by rw [QMs h,decide_eq_true rfl]
theorem Qtc {p : LockPlant} {x : LockState} {F : Bool -> Bool -> Option Bool} (h0 : ∀ b, F false b = some true) (h1 : F true false = some true) (h2 : PlantS p -> StateS x -> (p.Sections.length <= 4 \/ 8 < p.Sections.length) -> F true true = some true) :
  (Option.bind (Qdb p) fun r=>Option.bind (bif !(!r) then Qdc x else some default) fun s=>F r s)=some true:=by
 rcases QCz p with ⟨hf,hS,h8⟩ | hf
 ·rw [hf,QB];rcases QDa x with ⟨hx,hX⟩ | hx
  ·simp only [Bool.not_true,Bool.not_false,cond_true];rw [hx,QB];exact h2 hS hX h8
  ·simp only [Bool.not_true,Bool.not_false,cond_true];rw [hx,QB];exact h1
 ·rw [hf,QB];exact h0 _
end Go.Gw

end
